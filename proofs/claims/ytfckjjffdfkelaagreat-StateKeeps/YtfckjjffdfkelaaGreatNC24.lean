/-
  What functions of the program compute, in plain Lean, and that the evaluator finds it.
-/
import Derived.Test.YtfckjjffdfkelaaGreatSuSd
import Derived.Test.YtfckjjffdfkelaaGreatNC14
import Derived.Test.YtfckjjffdfkelaaGreatNB10
set_option maxRecDepth 10000
section
namespace Su
open Go Fly
set_option linter.unusedVariables false
noncomputable section
def qeL:(Int×((List Su.Tm)×(Int×(Int×(Bool×(Int×((List Su.Tm)×(Int×Unit))))))))→Option ((Int×((List Su.Tm)×(Int×(Int×(Bool×(Int×((List Su.Tm)×(Int×Unit)))))))) ⊕ (Int×((List Su.Tm)×(Int×(Int×(Bool×(Int×((List Su.Tm)×(Int×Unit))))))))):=fun p1=>(bif (decide ((p1.2.2.2.1<p1.2.2.1))) then
 ((Su.idx p1.2.1 p1.2.2.2.1)).bind fun x2 =>
 some (.inl ((((Su.upS 0 [p1.1,(((Su.qc8 (Int.toNat (Su.Tm.c x2))):Nat):Int)]):Nat):Int),(p1.2.1,(p1.2.2.1,((Go.IntKind.wrap .i64 (p1.2.2.2.1+1)),(p1.2.2.2.2.1,(p1.2.2.2.2.2.1,(p1.2.2.2.2.2.2.1,(p1.2.2.2.2.2.2.2.1,())))))))))
 else
  some (.inr (p1.1,(p1.2.1,(p1.2.2.1,(p1.2.2.2.1,(p1.2.2.2.2.1,(p1.2.2.2.2.2.1,(p1.2.2.2.2.2.2.1,(p1.2.2.2.2.2.2.2.1,()))))))))))
def qE4  (fu:Nat) (a:(Bool×(Int×((List Su.Tm)×Int)))):Option Int :=
 (bif (List.any [(a.1,(a.2.1,(a.2.2.1,a.2.2.2)))] (fun z0=>(z0.1||(!(Su.qa1 z0))))) then
 some ((9218868437227405312:Nat):Int)
 else
  (itP fu (qeL) ((0:Int),(a.2.2.1,((((List.length a.2.2.1):Nat):Int),((0:Int),(a.1,(a.2.1,(a.2.2.1,(a.2.2.2,()))))))))).bind fun x3 =>
  some (((Su.upS 0 [x3.1,x3.2.2.2.2.2.2.2.1]):Nat):Int))
def qng (c:Int):Int:=((qc8 c.toNat:Nat):Int)
def qln:List Tm→Int→Int
 | [],s=>s
 | t::l,s=>qln l (upI [s,qng t.c])
def radL:{f:Fm→Int // ∀ a,f a=bif okF a then upI [qln a.2.2.1 0,a.2.2.2] else 9218868437227405312}:=Classical.choice ⟨⟨_,fun _=>rfl⟩⟩
def qi5 (a:Fm):Int:=radL.1 a
theorem qi6 (a:Fm):qi5 a=bif okF a then upI [qln a.2.2.1 0,a.2.2.2] else 9218868437227405312:=radL.2 a
def qdi (a:Fm):Option Int:=bif qhq a.2.2.1 then some (qi5 a) else none
theorem qlo (l:List Tm) (hl:l.length≤549755813888) (q:Bool×(Int×(List Tm×(Int×Unit)))):∀ (rest A:List Tm) (s:Int),A++rest=l →
 ∃ n,itP n qeL (s,(l,((l.length:Int),((A.length:Int),q))))=some (qln rest s,(l,((l.length:Int),((l.length:Int),q))))
 | [],A,s,hA=>by
  rw [List.append_nil] at hA;subst hA
  refine ⟨1,?_⟩
  rw [qI]
  simp only [qeL]
  rw [decide_eq_false (by omega),cond_false];rfl
 | t::rest,A,s,hA=>by
  have hNl:A.length+(rest.length+1)=l.length:=by rw [← hA];simp
  have hg:idx l (A.length:Int)=some t:=by
   rw [jc,← hA,List.getElem?_append_right (by omega),Nat.sub_self];rfl
  obtain ⟨n,h⟩:=qlo l hl q rest (A++[t]) (upI [s,qng t.c]) (by rw [← hA];simp)
  refine ⟨n+1,?_⟩
  rw [qI]
  simp only [qeL]
  rw [decide_eq_true (show (A.length:Int)<(l.length:Int) by omega),cond_true,hg,Option.bind_some,w64 (by omega) (by omega),show ((A.length:Int)+1)=(((A++[t]).length:Nat):Int) by simp]
  exact h
theorem qzy (a:Fm) (y:Int) (hg:(d1 j4).good a) (h:qdi a=some y):∃ n,qE4 n a=some y:=by
 obtain ⟨b,m,l,e⟩:=a
 obtain ⟨h1,h2⟩:=qj h
 have:=soi h2;subst this
 have hl:l.length≤549755813888:=Nat.le_of_ble_eq_true h1
 have ha:List.any [((b,(m,(l,e))):Fm)] (fun z0=>(z0.1||(!(Su.qa1 z0)))) = !okF (b,(m,(l,e))):=by simp [okF]
 obtain ⟨n,q⟩:=qlo l hl (b,(m,(l,(e,())))) l [] 0 rfl
 refine ⟨n,?_⟩
 rw [qi6]
 unfold qE4
 simp only []
 rw [ha]
 cases okF (b,(m,(l,e))) with
 | false=>rfl
 | true =>
  rw [Bool.not_true,cond_false,cond_true]
  exact obs q rfl
end
end Su
end
section
namespace Su
open Go Fly
set_option linter.unusedVariables false
noncomputable section
def quu  (a:(Bool×(Int×((List Su.Tm)×Int)))):Option Int :=
 ((Su.qdi (a.1,((0:Int),(a.2.2.1,a.2.2.2))))).bind fun x0 =>
 some x0
def aMid  (a:Int) (b:Int):Option Int :=
 some (((Su.Zw (Int.toNat (((Su.qqS (Int.toNat a) (Int.toNat 4602678819172646912) 0):Nat):Int)) (Int.toNat (((Su.qqS (Int.toNat b) (Int.toNat 4602678819172646912) 0):Nat):Int)) 0):Nat):Int)
def qHC (a:Fm):Int:=qi5 (a.1,(0,(a.2.2.1,a.2.2.2)))
def qoU (a:Fm):Option Int:=bif qhq a.2.2.1 then some (qHC a) else none
theorem quv (a:Fm) (y:Int) (hg:(d1 j4).good a) (h:qoU a=some y):quu a=some y:=by
 obtain ⟨h1,h2⟩:=qj h
 have:=soi h2;subst this
 unfold quu qdi
 rw [h1];rfl
def YY (a b:Int):Int:=qcg (qE2 a 4602678819172646912 0) (qE2 b 4602678819172646912 0) 0
def quw (p:Int×Int):Option Int:=some (YY p.1 p.2)
theorem qzz (p:Int×Int) (y:Int) (hg:(dc (cI .u64) (d1 (cI .u64))).good p) (h:quw p=some y):aMid p.1 p.2=some y:=h
end
end Su
end
section
namespace Su
open Go Fly
set_option linter.unusedVariables false
noncomputable section
def qux  (a:(Bool×(Int×((List Su.Tm)×Int)))):Option (Bool×(Int×Int)) :=
 (bif (List.any [(a.1,(a.2.1,(a.2.2.1,a.2.2.2)))] (fun z0=>(z0.1||(!(Su.qa1 z0))))) then
 some ((Su.qk (false,(((18442240474082181120:Nat):Int),((9218868437227405312:Nat):Int)))).1,((Su.qk (false,(((18442240474082181120:Nat):Int),((9218868437227405312:Nat):Int)))).2.1,(Su.qk (false,(((18442240474082181120:Nat):Int),((9218868437227405312:Nat):Int)))).2.2))
 else
  ((Su.qdi (a.1,(a.2.1,(a.2.2.1,a.2.2.2))))).bind fun x1 =>
  some ((Su.qk (false,((((Su.Zw (Int.toNat a.2.1) (Int.toNat (((Su.Qu (Int.toNat x1)):Nat):Int)) 2):Nat):Int),(((Su.Zw (Int.toNat a.2.1) (Int.toNat x1) 1):Nat):Int)))).1,((Su.qk (false,((((Su.Zw (Int.toNat a.2.1) (Int.toNat (((Su.Qu (Int.toNat x1)):Nat):Int)) 2):Nat):Int),(((Su.Zw (Int.toNat a.2.1) (Int.toNat x1) 1):Nat):Int)))).2.1,(Su.qk (false,((((Su.Zw (Int.toNat a.2.1) (Int.toNat (((Su.Qu (Int.toNat x1)):Nat):Int)) 2):Nat):Int),(((Su.Zw (Int.toNat a.2.1) (Int.toNat x1) 1):Nat):Int)))).2.2)))
set_option linter.unusedSimpArgs false
def yI (a:Fm):Spn:=bif okF a then qk (false,(qcg a.2.1 (YJ (qi5 a)) 2,qcg a.2.1 (qi5 a) 1)) else (false,(18442240474082181120,9218868437227405312))
def qad (a:Fm):Option Spn:=bif qhq a.2.2.1 then some (yI a) else none
theorem quy (a:Fm) (y:Spn) (hg:(d1 j4).good a) (h:qad a=some y):qux a=some y:=by
 obtain ⟨b,m,l,r⟩:=a
 obtain ⟨h1,h2⟩:=qj h
 have:=soi h2;subst this
 have h1:qhq l=true:=h1
 have ha:List.any [((b,(m,(l,r))):Fm)] (fun z0=>(z0.1||(!(Su.qa1 z0)))) = !okF (b,(m,(l,r))):=by simp [okF]
 unfold qux yI qdi
 simp only []
 rw [ha]
 cases okF (b,(m,(l,r))) with
 | false=>rfl
 | true =>
  rw [Bool.not_true,cond_false,cond_true,h1,cond_true];rfl
end
end Su
end
section
namespace Su
open Go Fly
set_option linter.unusedVariables false
noncomputable section
def jU {S R:Type} (K:Nat) (F:S→Option (S ⊕ R)) (s:S) (r:R):Prop:=∀ m,K≤m→itP m F s=some r
theorem jU.next {S R:Type} {K:Nat} {F:S→Option (S ⊕ R)} {s s':S} {r:R} (h:F s=some (.inl s')) (hn:jU K F s' r):jU (K+1) F s r:=fun m hm=>by
 obtain ⟨j,rfl⟩:∃ j,m=j+1:=⟨m-1,by omega⟩
 rw [qI,h]
 exact hn j (by omega)
theorem jU.stop {S R:Type} {K:Nat} {F:S→Option (S ⊕ R)} {s:S} {r:R} (h:F s=some (.inr r)):jU (K+1) F s r:=fun m hm=>by
 obtain ⟨j,rfl⟩:∃ j,m=j+1:=⟨m-1,by omega⟩
 rw [qI,h];rfl
theorem jU.up {S R:Type} {K K':Nat} {F:S→Option (S ⊕ R)} {s:S} {r:R} (h:jU K F s r) (hk:K≤K'):jU K' F s r:=fun m hm=>h m (by omega)
def qch (n:Nat) (f:Nat→Bool):Bool:=(List.range n).all f
theorem qf3 {n:Nat} {f:Nat→Bool}:qch n f=true↔∀ i,i<n→f i=true:=by
 unfold qch
 simp [List.all_eq_true,List.mem_range]
theorem qhs {S R:Type} {F:S→Option (S ⊕ R)} {mk:Nat→S} {n:Nat} {ok:Nat→Bool} {r0 r1:R}
 (h1:∀ i,i<n→ok i=true→F (mk i)=some (.inl (mk (i+1)))) (h2:∀ i,i<n→ok i=false→F (mk i)=some (.inr r1)) (h0:F (mk n)=some (.inr r0)) :
 ∀ (j i:Nat),i+j=n→jU (j+1) F (mk i) (bif (List.range' i j).all ok then r0 else r1)
 | 0,i,h=>by
  have:i=n:=by omega
  subst this
  exact jU.stop h0
 | j+1,i,h=>by
  rw [List.range'_succ,List.all_cons]
  cases hk:ok i with
  | true=>exact jU.next (h1 i (by omega) hk) (by simpa using qhs h1 h2 h0 j (i+1) (by omega))
  | false=>exact jU.stop (h2 i (by omega) hk)
theorem qf4 {S R:Type} {F:S→Option (S ⊕ R)} {mk:Nat→S} {n:Nat} {ok:Nat→Bool} {r0 r1:R}
 (h1:∀ i,i<n→ok i=true→F (mk i)=some (.inl (mk (i+1)))) (h2:∀ i,i<n→ok i=false→F (mk i)=some (.inr r1)) (h0:F (mk n)=some (.inr r0)) :
 jU (n+1) F (mk 0) (bif qch n ok then r0 else r1):=by
 have:=qhs h1 h2 h0 n 0 (by omega)
 rwa [← List.range_eq_range'] at this
theorem ixl {α:Type} {l:List α} {i:Nat} (h:i<l.length):idx l (i:Int)=some l[i]:=by
 rw [jc,List.getElem?_eq_getElem h]
theorem w1 {i n:Nat} (h:i<n) (hn:n≤maxLen):IntKind.i64.wrap ((i:Int)+1)=((i+1:Nat):Int):=by
 rw [qK] at hn
 rw [w64 (by omega) (by omega)];rfl
theorem ltN (i n:Nat):decide ((i:Int)<(n:Int))=decide (i<n):=by
 by_cases h:i<n
 · rw [decide_eq_true h,decide_eq_true (by omega)]
 · rw [decide_eq_false h,decide_eq_false (by omega)]
theorem qlp (n:Nat):Nat.beq n n=true:=by simp
end
end Su
end
section
namespace Su
open Go Fly
set_option linter.unusedVariables false
abbrev Iv:=Bool×(Int×Int)
def noI:Iv:=(true,(0,0))
def ivN (s:Iv):Iv :=
 bif s.1||(decide (s.2.2<s.2.1)||(decide (1099511627776≤s.2.1)||decide (s.2.2≤-1099511627776))) then noI else (false,(max s.2.1 (-1099511627776),min s.2.2 1099511627776))
def yf (lo hi:Int):Iv:=ivN (false,(lo,hi))
def qy (s:Iv) (n:Int):Bool :=
 !(ivN s).1&&((decide ((ivN s).2.1 = -1099511627776)||decide ((ivN s).2.1≤n))&&(decide ((ivN s).2.2=1099511627776)||decide (n≤(ivN s).2.2)))
def qnh (a b:Iv):Bool:=(ivN a).1||(!(ivN b).1&&(decide ((ivN b).2.1≤(ivN a).2.1)&&decide ((ivN a).2.2≤(ivN b).2.2)))
def qqY (j s:Iv):Iv:=bif (ivN s).1 then j else bif j.1 then ivN s else (false,(min j.2.1 (ivN s).2.1,max j.2.2 (ivN s).2.2))
def qJ (l:List Iv):Iv:=l.foldl qqY noI
def qci (a b:Iv):Iv:=bif (ivN a).1||(ivN b).1 then noI else yf (max (ivN a).2.1 (ivN b).2.1) (min (ivN a).2.2 (ivN b).2.2)
def Zy (n:Int):Bool:=decide (1099511627776≤n)||decide (n≤-1099511627776)
def qa2 (n:Int):Int:=max (min n 1099511627776) (-1099511627776)
def Jz (x y:Int):Int:=bif Zy x then x else bif Zy y then y else qa2 (x+y)
def qdj (lo hi:Int):Iv:=(false,(min (qa2 lo) 1099511627775,max (qa2 hi) (-1099511627775)))
def JA (a:Iv):Iv:=bif (ivN a).1 then ivN a else yf (-(ivN a).2.2) (-(ivN a).2.1)
def ye (a b:Iv):Iv:=bif (ivN a).1||(ivN b).1 then noI else qdj (Jz (ivN a).2.1 (ivN b).2.1) (Jz (ivN a).2.2 (ivN b).2.2)
def qht (a b:Iv):Iv:=ye a (JA b)
abbrev Ckp:=Iv×Iv
def ckN (c:Ckp):Ckp:=bif (qJ [c.1]).1||(qJ [c.2]).1 then (noI,noI) else (qJ [c.1],qJ [c.2])
def yy (v k:Iv):Ckp:=ckN (qht v k,ye v k)
def js (c:Ckp):Ckp:=ckN (ye (ckN c).1 (false,(-1,-1)),ye (ckN c).2 (false,(1,1)))
def YK (a b:Ckp):Ckp:=ckN (qci (ckN a).1 (ckN b).1,qci (ckN a).2 (ckN b).2)
def ckJn (a b:Ckp):Ckp:=ckN (qJ [(ckN a).1,(ckN b).1],qJ [(ckN a).2,(ckN b).2])
def QF (v:Iv) (c:Ckp) (k:Iv):Iv:=qci (qci v (ye (ckN c).1 k)) (qht (ckN c).2 k)
def ckIn (a b:Ckp):Bool:=qnh (ckN a).1 (ckN b).1&&qnh (ckN a).2 (ckN b).2
def yt (c:Ckp) (v k:Int):Bool:=!(decide (min v k < -2199023255552)||decide (2199023255552<max v k))&&(qy (ckN c).1 (v-k)&&qy (ckN c).2 (v+k))
theorem qdk (s:Iv):ivN s=noI∨(s.1=false∧s.2.1≤s.2.2∧s.2.1<1099511627776∧-1099511627776<s.2.2∧ivN s=(false,(max s.2.1 (-1099511627776),min s.2.2 1099511627776))):=by
 unfold ivN
 cases h:(s.1||(decide (s.2.2<s.2.1)||(decide (1099511627776≤s.2.1)||decide (s.2.2≤-1099511627776)))) with
 | true=>exact .inl rfl
 | false =>
  simp only [Bool.or_eq_false_iff,decide_eq_false_iff_not] at h
  exact .inr ⟨h.1,by omega,by omega,by omega,rfl⟩
def qqZ (s:Iv):Prop:=s=noI∨(s.1=false∧s.2.1≤s.2.2∧-1099511627776≤s.2.1∧s.2.1<1099511627776∧-1099511627776<s.2.2∧s.2.2≤1099511627776)
theorem YL (s:Iv):qqZ (ivN s):=by
 rcases qdk s with h | ⟨_,h1,h2,h3,h⟩
 · rw [h];exact .inl rfl
 · rw [h];refine .inr ⟨rfl,?_,?_,?_,?_,?_⟩ <;> simp only [] <;> omega
theorem qi7 {s:Iv} (h:qqZ s):ivN s=s:=by
 obtain ⟨e,lo,hi⟩:=s
 rcases h with h | ⟨h0,h1,h2,h3,h4,h5⟩
 · rw [h];rfl
 · simp only [] at h0 h1 h2 h3 h4 h5
   subst h0
   unfold ivN
   rw [show (false||(decide (hi<lo)||(decide (1099511627776≤lo)||decide (hi≤-1099511627776))))=false by
    rw [decide_eq_false (by omega),decide_eq_false (by omega),decide_eq_false (by omega)];rfl]
   show (false,(max lo (-1099511627776),min hi 1099511627776))=(false,(lo,hi))
   rw [Int.max_eq_left h2,Int.min_eq_left h5]
theorem Jj (s:Iv):ivN (ivN s)=ivN s:=qi7 (YL s)
theorem qei (a:Iv):qJ [a]=ivN a:=by
 show qqY noI a=_
 unfold qqY
 rcases qdk a with h | ⟨_,_,_,_,h⟩ <;> rw [h] <;> rfl
theorem yo {s:Iv} (h:qqZ s) (h':s.1=false):s.2.1≤s.2.2∧-1099511627776≤s.2.1∧s.2.1<1099511627776∧-1099511627776<s.2.2∧s.2.2≤1099511627776:=by
 rcases h with h | h
 · rw [h] at h';cases h'
 · exact h.2
theorem qae (c:Ckp):ckN c=bif (ivN c.1).1||(ivN c.2).1 then (noI,noI) else (ivN c.1,ivN c.2):=by
 unfold ckN;rw [qei,qei]
theorem Zz (c:Ckp):ckN (ckN c)=ckN c:=by
 rw [qae c]
 cases h:((ivN c.1).1||(ivN c.2).1) with
 | true=>rfl
 | false =>
  rw [cond_false,qae]
  show (bif (ivN (ivN c.1)).1||(ivN (ivN c.2)).1 then _ else (ivN (ivN c.1),ivN (ivN c.2)))=_
  rw [Jj,Jj,h];rfl
theorem qHD (c:Ckp):ivN (ckN c).1=(ckN c).1:=by
 rw [qae]
 cases (ivN c.1).1||(ivN c.2).1 with
 | true=>rfl
 | false=>exact Jj _
theorem qHE (c:Ckp):ivN (ckN c).2=(ckN c).2:=by
 rw [qae]
 cases (ivN c.1).1||(ivN c.2).1 with
 | true=>rfl
 | false=>exact Jj _
end Su
end
section
namespace Su
open Go Fly
set_option linter.unusedVariables false
noncomputable section
def quz  (s:(Bool×(Int×Int))):Option (Bool×(Int×Int)) :=
 (bif s.1 then
 some (true,((0:Int),(0:Int)))
 else
  (bif (decide ((s.2.2<s.2.1))) then
  some (true,((0:Int),(0:Int)))
 else
  (bif (decide ((1099511627776≤s.2.1))) then
  some (true,((0:Int),(0:Int)))
 else
  (bif (decide ((s.2.2≤(-1099511627776)))) then
  some (true,((0:Int),(0:Int)))
 else
  some (false,((max s.2.1 (-1099511627776)),(min s.2.2 1099511627776)))))))
def qoV (s:Iv):Option Iv:=some (ivN s)
theorem quA (s y:Iv) (hg:(d1 cIn).good s) (h:qoV s=some y):quz s=some y:=by
 obtain ⟨e,lo,hi⟩:=s
 have:=soi h;subst this
 unfold quz ivN
 simp only []
 cases e with
 | true=>rfl
 | false =>
  cases decide (hi<lo) with
  | true=>rfl
  | false =>
   cases decide (1099511627776≤lo) with
   | true=>rfl
   | false=>cases decide (hi≤-1099511627776) <;> rfl
end
end Su
end
section
namespace Su
open Go Fly
set_option linter.unusedVariables false
noncomputable section
def qCD  (lo:Int) (hi:Int):Option (Bool×(Int×Int)) :=
 some ((Su.ivN (false,(lo,hi))).1,((Su.ivN (false,(lo,hi))).2.1,(Su.ivN (false,(lo,hi))).2.2))
def qE5  (s:(Bool×(Int×Int))) (n:Int):Option Bool :=
 (bif (!(Su.ivN (s.1,(s.2.1,s.2.2))).1) then
 (bif (decide (((Su.ivN (s.1,(s.2.1,s.2.2))).2.1=(-1099511627776)))) then
 (bif (decide (((Su.ivN (s.1,(s.2.1,s.2.2))).2.2=1099511627776))) then
 some true
 else
  some (decide ((n≤(Su.ivN (s.1,(s.2.1,s.2.2))).2.2))))
 else
  (bif (decide (((Su.ivN (s.1,(s.2.1,s.2.2))).2.1≤n))) then
  (bif (decide (((Su.ivN (s.1,(s.2.1,s.2.2))).2.2=1099511627776))) then
  some true
 else
  some (decide ((n≤(Su.ivN (s.1,(s.2.1,s.2.2))).2.2))))
 else
  some false))
 else
  some false)
def qE6  (a:(Bool×(Int×Int))) (b:(Bool×(Int×Int))):Option Bool :=
 (bif (Su.ivN (a.1,(a.2.1,a.2.2))).1 then
 some true
 else
  (bif (!(Su.ivN (b.1,(b.2.1,b.2.2))).1) then
  (bif (decide (((Su.ivN (b.1,(b.2.1,b.2.2))).2.1≤(Su.ivN (a.1,(a.2.1,a.2.2))).2.1))) then
  some (decide (((Su.ivN (a.1,(a.2.1,a.2.2))).2.2≤(Su.ivN (b.1,(b.2.1,b.2.2))).2.2)))
 else
  some false)
 else
  some false))
def qcj:((List (Bool×(Int×Int)))×(Int×(Int×(Bool×(Int×(Int×(Bool×(Int×(Int×Unit)))))))))→Option (((List (Bool×(Int×Int)))×(Int×(Int×(Bool×(Int×(Int×(Bool×(Int×(Int×Unit))))))))) ⊕ ((List (Bool×(Int×Int)))×(Int×(Int×(Bool×(Int×(Int×(Bool×(Int×(Int×Unit)))))))))):=fun p0=>(bif (decide ((p0.2.2.1<p0.2.1))) then
 ((Su.idx p0.1 p0.2.2.1)).bind fun x1 =>
 (bif (Su.ivN (x1.1,(x1.2.1,x1.2.2))).1 then
 some (.inl (p0.1,(p0.2.1,((Go.IntKind.wrap .i64 (p0.2.2.1+1)),(p0.2.2.2.1,(p0.2.2.2.2.1,(p0.2.2.2.2.2.1,(p0.2.2.2.2.2.2.1,(p0.2.2.2.2.2.2.2.1,(p0.2.2.2.2.2.2.2.2.1,()))))))))))
 else
  (bif p0.2.2.2.2.2.2.1 then
  some (.inl (p0.1,(p0.2.1,((Go.IntKind.wrap .i64 (p0.2.2.1+1)),(p0.2.2.2.1,(p0.2.2.2.2.1,(p0.2.2.2.2.2.1,((Su.ivN (x1.1,(x1.2.1,x1.2.2))).1,((Su.ivN (x1.1,(x1.2.1,x1.2.2))).2.1,((Su.ivN (x1.1,(x1.2.1,x1.2.2))).2.2,()))))))))))
 else
  some (.inl (p0.1,(p0.2.1,((Go.IntKind.wrap .i64 (p0.2.2.1+1)),(p0.2.2.2.1,(p0.2.2.2.2.1,(p0.2.2.2.2.2.1,(false,((min p0.2.2.2.2.2.2.2.1 (Su.ivN (x1.1,(x1.2.1,x1.2.2))).2.1),((max p0.2.2.2.2.2.2.2.2.1 (Su.ivN (x1.1,(x1.2.1,x1.2.2))).2.2),()))))))))))))
 else
  some (.inr (p0.1,(p0.2.1,(p0.2.2.1,(p0.2.2.2.1,(p0.2.2.2.2.1,(p0.2.2.2.2.2.1,(p0.2.2.2.2.2.2.1,(p0.2.2.2.2.2.2.2.1,(p0.2.2.2.2.2.2.2.2.1,())))))))))))
def quB  (fu:Nat) (l:(List (Bool×(Int×Int)))):Option (Bool×(Int×Int)) :=
 (itP fu (qcj) (l,((((List.length l):Nat):Int),((0:Int),(false,((0:Int),((0:Int),(true,((0:Int),((0:Int),())))))))))).bind fun x2 =>
 some (x2.2.2.2.2.2.2.1,(x2.2.2.2.2.2.2.2.1,x2.2.2.2.2.2.2.2.2.1))
def qE7  (a:(Bool×(Int×Int))):Option (Bool×(Int×Int)) :=
 (bif (Su.ivN (a.1,(a.2.1,a.2.2))).1 then
 some ((Su.ivN (a.1,(a.2.1,a.2.2))).1,((Su.ivN (a.1,(a.2.1,a.2.2))).2.1,(Su.ivN (a.1,(a.2.1,a.2.2))).2.2))
 else
  some ((Su.ivN (false,((Go.IntKind.wrap .i64 (0-(Su.ivN (a.1,(a.2.1,a.2.2))).2.2)),(Go.IntKind.wrap .i64 (0-(Su.ivN (a.1,(a.2.1,a.2.2))).2.1))))).1,((Su.ivN (false,((Go.IntKind.wrap .i64 (0-(Su.ivN (a.1,(a.2.1,a.2.2))).2.2)),(Go.IntKind.wrap .i64 (0-(Su.ivN (a.1,(a.2.1,a.2.2))).2.1))))).2.1,(Su.ivN (false,((Go.IntKind.wrap .i64 (0-(Su.ivN (a.1,(a.2.1,a.2.2))).2.2)),(Go.IntKind.wrap .i64 (0-(Su.ivN (a.1,(a.2.1,a.2.2))).2.1))))).2.2)))
def quC  (a:(Bool×(Int×Int))) (b:(Bool×(Int×Int))):Option (Bool×(Int×Int)) :=
 (bif (Su.ivN (a.1,(a.2.1,a.2.2))).1 then
 some (true,((0:Int),(0:Int)))
 else
  (bif (Su.ivN (b.1,(b.2.1,b.2.2))).1 then
  some (true,((0:Int),(0:Int)))
 else
  some ((Su.ivN (false,((max (Su.ivN (a.1,(a.2.1,a.2.2))).2.1 (Su.ivN (b.1,(b.2.1,b.2.2))).2.1),(min (Su.ivN (a.1,(a.2.1,a.2.2))).2.2 (Su.ivN (b.1,(b.2.1,b.2.2))).2.2)))).1,((Su.ivN (false,((max (Su.ivN (a.1,(a.2.1,a.2.2))).2.1 (Su.ivN (b.1,(b.2.1,b.2.2))).2.1),(min (Su.ivN (a.1,(a.2.1,a.2.2))).2.2 (Su.ivN (b.1,(b.2.1,b.2.2))).2.2)))).2.1,(Su.ivN (false,((max (Su.ivN (a.1,(a.2.1,a.2.2))).2.1 (Su.ivN (b.1,(b.2.1,b.2.2))).2.1),(min (Su.ivN (a.1,(a.2.1,a.2.2))).2.2 (Su.ivN (b.1,(b.2.1,b.2.2))).2.2)))).2.2))))
def qE8  (x:Int) (y:Int):Option Int :=
 (bif (decide ((1099511627776≤x))) then
 some x
 else
  (bif (decide ((x≤(-1099511627776)))) then
  some x
 else
  (bif (decide ((1099511627776≤y))) then
  some y
 else
  (bif (decide ((y≤(-1099511627776)))) then
  some y
 else
  some (max (min (Go.IntKind.wrap .i64 (x+y)) 1099511627776) (-1099511627776))))))
def qCE  (lo:Int) (hi:Int):Option (Bool×(Int×Int)) :=
 some (false,((min (max (min lo 1099511627776) (-1099511627776)) 1099511627775),(max (max (min hi 1099511627776) (-1099511627776)) (-1099511627775))))
def qoW (p:Int×Int):Option Iv:=some (yf p.1 p.2)
theorem quD (p:Int×Int) (y:Iv) (hg:(dc (cI .i64) (d1 (cI .i64))).good p) (h:qoW p=some y):qCD p.1 p.2=some y:=by
 have:=soi h;subst this;rfl
def quE (p:Iv×Int):Option Bool:=some (qy p.1 p.2)
theorem qzA (p:Iv×Int) (y:Bool) (hg:(dc cIn (d1 (cI .i64))).good p) (h:quE p=some y):qE5 p.1 p.2=some y:=by
 obtain ⟨⟨e,lo,hi⟩,n⟩:=p
 have:=soi h;subst this
 unfold qE5 qy
 simp only []
 generalize ivN (e,(lo,hi))=t
 cases t.1 with
 | true=>rfl
 | false =>
  cases decide (t.2.1 = -1099511627776) <;> cases decide (t.2.1≤n) <;> cases decide (t.2.2=1099511627776) <;> rfl
def quF (p:Iv×Iv):Option Bool:=some (qnh p.1 p.2)
theorem qzB (p:Iv×Iv) (y:Bool) (hg:(dc cIn (d1 cIn)).good p) (h:quF p=some y):qE6 p.1 p.2=some y:=by
 obtain ⟨⟨e,lo,hi⟩,⟨e',lo',hi'⟩⟩:=p
 have:=soi h;subst this
 unfold qE6 qnh
 simp only []
 generalize ivN (e,(lo,hi))=t
 generalize ivN (e',(lo',hi'))=t'
 cases t.1 with
 | true=>rfl
 | false =>
  cases t'.1 with
  | true=>rfl
  | false=>cases decide (t'.2.1≤t.2.1) <;> rfl
abbrev IjS:=List Iv×(Int×(Int×(Bool×(Int×(Int×(Bool×(Int×(Int×Unit))))))))
def qzC (l:List Iv) (i:Int) (j:Iv):IjS:=(l,(((l.length:Nat):Int),(i,(false,(0,(0,(j.1,(j.2.1,(j.2.2,())))))))))
theorem qoX (l:List Iv) (hl:l.length≤maxLen):∀ (r A:List Iv) (j:Iv),A++r=l→jU (r.length+1) qcj (qzC l A.length j) (qzC l l.length (r.foldl qqY j))
 | [],A,j,h=>by
  rw [List.append_nil] at h;subst h
  refine jU.stop ?_
  unfold qzC
  simp only [qcj,ltN,decide_eq_false (Nat.lt_irrefl _),cond_false];rfl
 | x::r,A,j,h=>by
  have hi:A.length<l.length:=by rw [← h];simp
  have hg:idx l (A.length:Int)=some x:=by
   rw [jc,← h,List.getElem?_append_right (by omega),Nat.sub_self];rfl
  have ih:=qoX l hl r (A++[x]) (qqY j x) (by rw [← h];simp)
  refine jU.next ?_ ih
  unfold qzC
  simp only [qcj,ltN,decide_eq_true hi,cond_true,hg,Option.bind_some,w1 hi hl]
  rw [show (A++[x]).length=A.length+1 by simp]
  unfold qqY
  obtain ⟨x1,x2,x3⟩:=x
  obtain ⟨j1,j2,j3⟩:=j
  simp only []
  generalize ivN (x1,(x2,x3))=t
  obtain ⟨t1,t2,t3⟩:=t
  cases t1 with
  | true=>rfl
  | false=>cases j1 <;> rfl
def qoY (l:List Iv):Option Iv:=some (qJ l)
theorem quG (l:List Iv) (y:Iv) (hg:(d1 (cL rIn)).good l) (h:qoY l=some y):∃ n,quB n l=some y:=by
 have:=soi h;subst this
 refine ⟨l.length+1,?_⟩
 unfold quB
 have:=qoX l hg.2 l [] noI rfl
 exact obB (this _ (Nat.le_refl _)) rfl
theorem qzD (s:Iv) : -1099511627776≤(ivN s).2.1∧(ivN s).2.1≤1099511627776∧-1099511627776≤(ivN s).2.2∧(ivN s).2.2≤1099511627776:=by
 rcases YL s with h | ⟨_,h1,h2,h3,h4,h5⟩
 · rw [h];exact ⟨by decide,by decide,by decide,by decide⟩
 · omega
def quH (a:Iv):Option Iv:=some (JA a)
theorem qzE (a y:Iv) (hg:(d1 cIn).good a) (h:quH a=some y):qE7 a=some y:=by
 obtain ⟨e,lo,hi⟩:=a
 have:=soi h;subst this
 obtain ⟨h1,h2,h3,h4⟩:=qzD (e,(lo,hi))
 unfold qE7 JA yf
 simp only []
 generalize ivN (e,(lo,hi))=t at *
 obtain ⟨t1,t2,t3⟩:=t
 simp only [] at h1 h2 h3 h4 ⊢
 cases t1 with
 | true=>rfl
 | false=>rw [w64 (by omega) (by omega),w64 (by omega) (by omega),Int.zero_sub,Int.zero_sub];rfl
def qoZ (p:Iv×Iv):Option Iv:=some (qci p.1 p.2)
theorem quI (p:Iv×Iv) (y:Iv) (hg:(dc cIn (d1 cIn)).good p) (h:qoZ p=some y):quC p.1 p.2=some y:=by
 obtain ⟨⟨e,lo,hi⟩,⟨e',lo',hi'⟩⟩:=p
 have:=soi h;subst this
 unfold quC qci yf
 simp only []
 generalize ivN (e,(lo,hi))=t
 generalize ivN (e',(lo',hi'))=t'
 cases t.1 with
 | true=>rfl
 | false=>cases t'.1 <;> rfl
def quJ (p:Int×Int):Option Int:=some (Jz p.1 p.2)
theorem qzF (p:Int×Int) (y:Int) (hg:(dc (cI .i64) (d1 (cI .i64))).good p) (h:quJ p=some y):qE8 p.1 p.2=some y:=by
 obtain ⟨x,z⟩:=p
 have:=soi h;subst this
 unfold qE8 Jz Zy qa2
 simp only []
 by_cases h1:1099511627776≤x
 · rw [decide_eq_true h1];rfl
 · by_cases h2:x≤-1099511627776
   · rw [decide_eq_false h1,decide_eq_true h2];rfl
   · by_cases h3:1099511627776≤z
     · rw [decide_eq_false h1,decide_eq_false h2,decide_eq_true h3];rfl
     · by_cases h4:z≤-1099511627776
       · rw [decide_eq_false h1,decide_eq_false h2,decide_eq_false h3,decide_eq_true h4];rfl
       · rw [decide_eq_false h1,decide_eq_false h2,decide_eq_false h3,decide_eq_false h4,w64 (by omega) (by omega)];rfl
def qo0 (p:Int×Int):Option Iv:=some (qdj p.1 p.2)
theorem quK (p:Int×Int) (y:Iv) (hg:(dc (cI .i64) (d1 (cI .i64))).good p) (h:qo0 p=some y):qCE p.1 p.2=some y:=by
 have:=soi h;subst this;rfl
end
end Su
end
section
namespace Su
open Go Fly
set_option linter.unusedVariables false
noncomputable section
def qE9  (a:(Bool×(Int×Int))) (b:(Bool×(Int×Int))):Option (Bool×(Int×Int)) :=
 (bif (Su.ivN (a.1,(a.2.1,a.2.2))).1 then
 some (true,((0:Int),(0:Int)))
 else
  (bif (Su.ivN (b.1,(b.2.1,b.2.2))).1 then
  some (true,((0:Int),(0:Int)))
 else
  some ((Su.qdj (Su.Jz (Su.ivN (a.1,(a.2.1,a.2.2))).2.1 (Su.ivN (b.1,(b.2.1,b.2.2))).2.1) (Su.Jz (Su.ivN (a.1,(a.2.1,a.2.2))).2.2 (Su.ivN (b.1,(b.2.1,b.2.2))).2.2)).1,((Su.qdj (Su.Jz (Su.ivN (a.1,(a.2.1,a.2.2))).2.1 (Su.ivN (b.1,(b.2.1,b.2.2))).2.1) (Su.Jz (Su.ivN (a.1,(a.2.1,a.2.2))).2.2 (Su.ivN (b.1,(b.2.1,b.2.2))).2.2)).2.1,(Su.qdj (Su.Jz (Su.ivN (a.1,(a.2.1,a.2.2))).2.1 (Su.ivN (b.1,(b.2.1,b.2.2))).2.1) (Su.Jz (Su.ivN (a.1,(a.2.1,a.2.2))).2.2 (Su.ivN (b.1,(b.2.1,b.2.2))).2.2)).2.2))))
def quL (p:Iv×Iv):Option Iv:=some (ye p.1 p.2)
theorem qzG (p:Iv×Iv) (y:Iv) (hg:(dc cIn (d1 cIn)).good p) (h:quL p=some y):qE9 p.1 p.2=some y:=by
 obtain ⟨⟨e,lo,hi⟩,⟨e',lo',hi'⟩⟩:=p
 have:=soi h;subst this
 unfold qE9 ye
 simp only []
 generalize ivN (e,(lo,hi))=t
 generalize ivN (e',(lo',hi'))=t'
 cases t.1 with
 | true=>rfl
 | false=>cases t'.1 <;> rfl
end
end Su
end
section
namespace Su
open Go Fly
def qzH (a:Ck):Ckp:=((a.1,(a.2.1,a.2.2.1)),(a.2.2.2.1,(a.2.2.2.2.1,a.2.2.2.2.2)))
def frCk (c:Ckp):Ck:=(c.1.1,(c.1.2.1,(c.1.2.2,(c.2.1,(c.2.2.1,c.2.2.2)))))
noncomputable def jK:Cod Ckp:=cA (dm dCk qzH frCk (fun _=>rfl) (fun _=>rfl)) (fun _=>rfl)
end Su
namespace Su
open Go Fly
end Su
end
section
namespace Su
open Go Fly
set_option linter.unusedVariables false
noncomputable section
def iSub  (a:(Bool×(Int×Int))) (b:(Bool×(Int×Int))):Option (Bool×(Int×Int)) :=
 some ((Su.ye (a.1,(a.2.1,a.2.2)) ((Su.JA (b.1,(b.2.1,b.2.2))).1,((Su.JA (b.1,(b.2.1,b.2.2))).2.1,(Su.JA (b.1,(b.2.1,b.2.2))).2.2))).1,((Su.ye (a.1,(a.2.1,a.2.2)) ((Su.JA (b.1,(b.2.1,b.2.2))).1,((Su.JA (b.1,(b.2.1,b.2.2))).2.1,(Su.JA (b.1,(b.2.1,b.2.2))).2.2))).2.1,(Su.ye (a.1,(a.2.1,a.2.2)) ((Su.JA (b.1,(b.2.1,b.2.2))).1,((Su.JA (b.1,(b.2.1,b.2.2))).2.1,(Su.JA (b.1,(b.2.1,b.2.2))).2.2))).2.2))
def iPt  (n:Int):Option (Bool×(Int×Int)) :=
 some ((Su.yf n n).1,((Su.yf n n).2.1,(Su.yf n n).2.2))
def quM  (c:((Bool×(Int×Int))×(Bool×(Int×Int)))):Option ((Bool×(Int×Int))×(Bool×(Int×Int))) :=
 (bif (Su.qJ [(c.1.1,(c.1.2.1,c.1.2.2))]).1 then
 some (Su.qzH (true,((0:Int),((0:Int),(true,((0:Int),(0:Int)))))))
 else
  (bif (Su.qJ [(c.2.1,(c.2.2.1,c.2.2.2))]).1 then
  some (Su.qzH (true,((0:Int),((0:Int),(true,((0:Int),(0:Int)))))))
 else
  some (Su.qzH ((Su.qJ [(c.1.1,(c.1.2.1,c.1.2.2))]).1,((Su.qJ [(c.1.1,(c.1.2.1,c.1.2.2))]).2.1,((Su.qJ [(c.1.1,(c.1.2.1,c.1.2.2))]).2.2,((Su.qJ [(c.2.1,(c.2.2.1,c.2.2.2))]).1,((Su.qJ [(c.2.1,(c.2.2.1,c.2.2.2))]).2.1,(Su.qJ [(c.2.1,(c.2.2.1,c.2.2.2))]).2.2))))))))
def quN (p:Iv×Iv):Option Iv:=some (qht p.1 p.2)
theorem qzI (p:Iv×Iv) (y:Iv) (hg:(dc cIn (d1 cIn)).good p) (h:quN p=some y):iSub p.1 p.2=some y:=by
 have:=soi h;subst this;rfl
def qCF (n:Int):Option Iv:=some (yf n n)
theorem qFa (n:Int) (y:Iv) (hg:(d1 (cI .i64)).good n) (h:qCF n=some y):iPt n=some y:=by
 have:=soi h;subst this;rfl
def qo1 (c:Ckp):Option Ckp:=some (ckN c)
theorem quO (c y:Ckp) (hg:(d1 jK).good c) (h:qo1 c=some y):quM c=some y:=by
 obtain ⟨⟨a,b,d⟩,⟨a',b',d'⟩⟩:=c
 have:=soi h;subst this
 unfold quM ckN
 simp only []
 generalize qJ [(a,(b,d))]=t
 generalize qJ [(a',(b',d'))]=t'
 obtain ⟨t1,t2,t3⟩:=t
 obtain ⟨t4,t5,t6⟩:=t'
 cases t1 with
 | true=>rfl
 | false=>cases t4 <;> rfl
end
end Su
end
section
namespace Su
open Go Fly
set_option linter.unusedVariables false
noncomputable section
def kOf  (v:(Bool×(Int×Int))) (k:(Bool×(Int×Int))):Option ((Bool×(Int×Int))×(Bool×(Int×Int))) :=
 some (Su.ckN ((Su.qht v k),(Su.ye v k)))
def qCG  (c:((Bool×(Int×Int))×(Bool×(Int×Int)))):Option ((Bool×(Int×Int))×(Bool×(Int×Int))) :=
 some (Su.ckN ((Su.ye (Su.ckN c).1 (false,((-1),(-1)))),(Su.ye (Su.ckN c).2 (false,((1:Int),(1:Int))))))
def kRed  (v:(Bool×(Int×Int))) (c:((Bool×(Int×Int))×(Bool×(Int×Int)))) (k:(Bool×(Int×Int))):Option (Bool×(Int×Int)) :=
 some (Su.qci (Su.qci v (Su.ye (Su.ckN c).1 k)) (Su.qht (Su.ckN c).2 k))
def kMt  (a:((Bool×(Int×Int))×(Bool×(Int×Int)))) (b:((Bool×(Int×Int))×(Bool×(Int×Int)))):Option ((Bool×(Int×Int))×(Bool×(Int×Int))) :=
 some (Su.ckN ((Su.qci (Su.ckN a).1 (Su.ckN b).1),(Su.qci (Su.ckN a).2 (Su.ckN b).2)))
def kJn  (a:((Bool×(Int×Int))×(Bool×(Int×Int)))) (b:((Bool×(Int×Int))×(Bool×(Int×Int)))):Option ((Bool×(Int×Int))×(Bool×(Int×Int))) :=
 some (Su.ckN ((Su.qJ [(Su.ckN a).1,(Su.ckN b).1]),(Su.qJ [(Su.ckN a).2,(Su.ckN b).2])))
def kIn  (a:((Bool×(Int×Int))×(Bool×(Int×Int)))) (b:((Bool×(Int×Int))×(Bool×(Int×Int)))):Option Bool :=
 (bif (Su.qnh (Su.ckN a).1 (Su.ckN b).1) then
 some (Su.qnh (Su.ckN a).2 (Su.ckN b).2)
 else
  some false)
def qFb  (c:((Bool×(Int×Int))×(Bool×(Int×Int)))) (v:Int) (k:Int):Option Bool :=
 (bif (decide (((min v k)<(-2199023255552)))) then
 some false
 else
  (bif (decide ((2199023255552<(max v k)))) then
  some false
 else
  (bif (Su.qy (Su.ckN c).1 (Go.IntKind.wrap .i64 (v-k))) then
  some (Su.qy (Su.ckN c).2 (Go.IntKind.wrap .i64 (v+k)))
 else
  some false)))
def qCH (p:Iv×Iv):Option Ckp:=some (yy p.1 p.2)
theorem qFc (p:Iv×Iv) (y:Ckp) (hg:(dc cIn (d1 cIn)).good p) (h:qCH p=some y):kOf p.1 p.2=some y:=by
 have:=soi h;subst this;rfl
def qo2 (c:Ckp):Option Ckp:=some (js c)
theorem quP (c y:Ckp) (hg:(d1 jK).good c) (h:qo2 c=some y):qCG c=some y:=by
 have:=soi h;subst this;rfl
def quQ (p:Iv×(Ckp×Iv)):Option Iv:=some (QF p.1 p.2.1 p.2.2)
theorem qzJ (p:Iv×(Ckp×Iv)) (y:Iv) (hg:(dc cIn (dc jK (d1 cIn))).good p) (h:quQ p=some y):kRed p.1 p.2.1 p.2.2=some y:=by
 have:=soi h;subst this;rfl
def qCI (p:Ckp×Ckp):Option Ckp:=some (YK p.1 p.2)
theorem qFd (p:Ckp×Ckp) (y:Ckp) (hg:(dc jK (d1 jK)).good p) (h:qCI p=some y):kMt p.1 p.2=some y:=by
 have:=soi h;subst this;rfl
def qCJ (p:Ckp×Ckp):Option Ckp:=some (ckJn p.1 p.2)
theorem qFe (p:Ckp×Ckp) (y:Ckp) (hg:(dc jK (d1 jK)).good p) (h:qCJ p=some y):kJn p.1 p.2=some y:=by
 have:=soi h;subst this;rfl
def qCK (p:Ckp×Ckp):Option Bool:=some (ckIn p.1 p.2)
theorem qFf (p:Ckp×Ckp) (y:Bool) (hg:(dc jK (d1 jK)).good p) (h:qCK p=some y):kIn p.1 p.2=some y:=by
 have:=soi h;subst this
 unfold kIn ckIn
 cases qnh (ckN p.1).1 (ckN p.2).1 <;> rfl
def quR (p:Ckp×(Int×Int)):Option Bool:=some (yt p.1 p.2.1 p.2.2)
theorem qzK (p:Ckp×(Int×Int)) (y:Bool) (hg:(dc jK (dc (cI .i64) (d1 (cI .i64)))).good p) (h:quR p=some y):qFb p.1 p.2.1 p.2.2=some y:=by
 obtain ⟨c,v,k⟩:=p
 have:=soi h;subst this
 unfold qFb yt
 simp only []
 by_cases h1:min v k < -2199023255552
 · rw [decide_eq_true h1];rfl
 · by_cases h2:2199023255552<max v k
   · rw [decide_eq_false h1,decide_eq_true h2];rfl
   · rw [decide_eq_false h1,decide_eq_false h2,w64 (by omega) (by omega),w64 (by omega) (by omega)]
     cases qy (ckN c).1 (v-k) <;> rfl
end
end Su
end
section
namespace Su
open Go Fly
set_option linter.unusedVariables false
def JP (f:Int):Bool:=qH (bK f.toNat)
def ky (f:Int):Int:=Qt f.toNat
def mnI (a b:Int):Int:=((qiL a.toNat b.toNat:Nat):Int)
def mxI (a b:Int):Int:=((qbZ a.toNat b.toNat:Nat):Int)
def Fw (f:Int):Prop:=0≤f∧f<18446744073709551616
def Qw (lo hi:Int):Spn:=qk (false,(lo,hi))
def qq0 (j s:Spn):Spn:=bif (qk s).1 then j else bif j.1 then qk s else Qw (mnI j.2.1 (qk s).2.1) (mxI j.2.2 (qk s).2.2)
def Qx (l:List Spn):Spn:=l.foldl qq0 qaB
def Qm (a b:Spn):Spn:=bif (qk a).1||(qk b).1 then qaB else Qw (mxI (qk a).2.1 (qk b).2.1) (mnI (qk a).2.2 (qk b).2.2)
def quS (a b:Spn):Bool:=(qk a).1||(!(qk b).1&&(leF (qk b).2.1 (qk a).2.1&&leF (qk a).2.2 (qk b).2.2))
def yO (s:Spn) (f:Int):Bool:=!decide (qD (bK f.toNat)=3)&&(!(Qw f f).1&&quS (Qw f f) s)
theorem qaf {a b:Int}:leF a b=true↔JP a=false∧JP b=false∧ky a≤ky b:=by
 unfold leF JP ky qgp qkP qyI
 cases qH (bK a.toNat) <;> cases qH (bK b.toNat) <;> simp
 by_cases h1:Qt a.toNat<Qt b.toNat
 · rw [decide_eq_true h1];simp;omega
 · rw [decide_eq_false h1]
   by_cases h2:Qt b.toNat<Qt a.toNat
   · rw [decide_eq_true h2];simp;omega
   · rw [decide_eq_false h2];simp;omega
theorem qck {a b:Nat}:yN a b=true↔qH (bK a)=false∧qH (bK b)=false∧Qt a<Qt b:=by
 unfold yN qgp qkP qyI
 cases qH (bK a) <;> cases qH (bK b) <;> simp
 by_cases h1:Qt a<Qt b
 · rw [decide_eq_true h1];simp;omega
 · rw [decide_eq_false h1]
   by_cases h2:Qt b<Qt a
   · rw [decide_eq_true h2];simp;omega
   · rw [decide_eq_false h2];simp;omega
theorem qdl (f:Int):(ky f).natAbs=bK f.toNat:=by
 unfold ky Qt
 cases bS f.toNat <;> simp
theorem qFg {a b:Int} (ha:Fw a) (hb:Fw b) (za:a≠9223372036854775808) (zb:b≠9223372036854775808) (h:ky a=ky b):a=b:=by
 have h1:=qdl a
 have h2:=qdl b
 rw [h,h2] at h1
 obtain ⟨a0,a1⟩:=ha
 obtain ⟨b0,b1⟩:=hb
 unfold ky Qt at h
 have sa:bS a.toNat=decide (9223372036854775808≤a.toNat):=by
  cases hs:bS a.toNat with
  | true=>rw [decide_eq_true (JK.1 hs)]
  | false=>rw [decide_eq_false (by have:=Jf.1 hs;omega)]
 have sb:bS b.toNat=decide (9223372036854775808≤b.toNat):=by
  cases hs:bS b.toNat with
  | true=>rw [decide_eq_true (JK.1 hs)]
  | false=>rw [decide_eq_false (by have:=Jf.1 hs;omega)]
 rw [sa,sb] at h
 unfold bK at h h1
 by_cases p:9223372036854775808≤a.toNat <;> by_cases q:9223372036854775808≤b.toNat
 · rw [decide_eq_true p,decide_eq_true q] at h;simp only [cond_true] at h;omega
 · rw [decide_eq_true p,decide_eq_false q] at h;simp only [cond_true,cond_false] at h;omega
 · rw [decide_eq_false p,decide_eq_true q] at h;simp only [cond_true,cond_false] at h;omega
 · rw [decide_eq_false p,decide_eq_false q] at h;simp only [cond_false] at h;omega
theorem qHF {a b:Int} (ha:Fw a) (hb:Fw b) (na:JP a=false) (nb:JP b=false):mnI a b=if ky b<ky a then b else a:=by
 unfold mnI qiL
 unfold JP at na nb
 rw [na,nb]
 simp only [Bool.or_self,cond_false]
 by_cases h:ky b<ky a
 · rw [if_pos h,qck.2 ⟨nb,na,h⟩,cond_true];exact Int.toNat_of_nonneg hb.1
 · rw [if_neg h,show yN b.toNat a.toNat=false by
    cases hl:yN b.toNat a.toNat with
    | false=>rfl
    | true=>exact absurd (qck.1 hl).2.2 h,cond_false]
   exact Int.toNat_of_nonneg ha.1
theorem qCL {a b:Int} (ha:Fw a) (hb:Fw b) (na:JP a=false) (nb:JP b=false):mxI a b=if ky a<ky b then b else a:=by
 unfold mxI qbZ
 unfold JP at na nb
 rw [na,nb]
 simp only [Bool.or_self,cond_false]
 by_cases h:ky a<ky b
 · rw [if_pos h,qck.2 ⟨na,nb,h⟩,cond_true];exact Int.toNat_of_nonneg hb.1
 · rw [if_neg h,show yN a.toNat b.toNat=false by
    cases hl:yN a.toNat b.toNat with
    | false=>rfl
    | true=>exact absurd (qck.1 hl).2.2 h,cond_false]
   exact Int.toNat_of_nonneg ha.1
structure Nz (f:Int):Prop where
 w:Fw f
 n:JP f=false
 z:f≠9223372036854775808
theorem qhu {f:Int} (h:Fw f) (hn:JP f=false):Nz (nzI f)∧ky (nzI f)=ky f:=by
 unfold nzI zI
 cases hz:Nat.beq (bK f.toNat) 0 with
 | true =>
  rw [cond_true]
  have h0:=Nat.eq_of_beq_eq_true hz
  refine ⟨⟨⟨by decide,by decide⟩,by decide,by decide⟩,?_⟩
  have:=qdl f
  have e:ky 0=0:=by decide
  rw [e];omega
 | false =>
  rw [cond_false]
  refine ⟨⟨h,hn,fun e=>?_⟩,rfl⟩
  subst e
  revert hz;decide
def quT (s:Spn):Prop:=s=qaB∨(s.1=false∧Nz s.2.1∧Nz s.2.2∧ky s.2.1≤ky s.2.2∧s.2.1≠9218868437227405312∧s.2.2≠18442240474082181120)
def SpW (s:Spn):Prop:=Fw s.2.1∧Fw s.2.2
theorem qo3 {f:Int} (h:Nz f):nzI f=f:=by
 obtain ⟨h1,h2⟩:=qhu h.w h.n
 exact qFg h1.w h.w h1.z h.z h2
theorem qo4 {f:Int} (h:Fw f) (hn:JP f=false) (c:Int) (hc:c=9218868437227405312∨c=18442240474082181120) (hf:f≠c):nzI f≠c:=by
 unfold nzI
 cases zI f with
 | true=>rw [cond_true];omega
 | false=>rw [cond_false];exact hf
theorem JB {s:Spn} (hw:SpW s):qk s=qaB∨(s.1=false∧JP s.2.1=false∧JP s.2.2=false∧ky s.2.1≤ky s.2.2∧s.2.1≠9218868437227405312∧s.2.2≠18442240474082181120∧qk s=(false,(nzI s.2.1,nzI s.2.2))):=by
 unfold qk
 cases h:(s.1||(!leF s.2.1 s.2.2||(decide (s.2.1=9218868437227405312)||decide (s.2.2=18442240474082181120)))) with
 | true=>exact .inl rfl
 | false =>
  simp only [Bool.or_eq_false_iff,Bool.not_eq_false',decide_eq_false_iff_not] at h
  obtain ⟨h0,h1,h2,h3⟩:=h
  obtain ⟨a,b,c⟩:=qaf.1 h1
  exact .inr ⟨h0,a,b,c,h2,h3,by rw [h0];rfl⟩
theorem jQ {s:Spn} (hw:SpW s):quT (qk s):=by
 rcases JB hw with h | ⟨_,h1,h2,h3,h4,h5,h⟩
 · rw [h];exact .inl rfl
 · rw [h]
   obtain ⟨a1,a2⟩:=qhu hw.1 h1
   obtain ⟨b1,b2⟩:=qhu hw.2 h2
   exact .inr ⟨rfl,a1,b1,by simp only [];rw [a2,b2];exact h3,qo4 hw.1 h1 _ (.inl rfl) h4,qo4 hw.2 h2 _ (.inr rfl) h5⟩
theorem quT.w {s:Spn} (h:quT s):SpW s:=by
 rcases h with h | ⟨_,h1,h2,_⟩
 · rw [h];exact ⟨⟨by decide,by decide⟩,⟨by decide,by decide⟩⟩
 · exact ⟨h1.w,h2.w⟩
theorem qcl {s:Spn} (h:quT s):qk s=s:=by
 obtain ⟨e,lo,hi⟩:=s
 rcases h with h | ⟨h0,h1,h2,h3,h4,h5⟩
 · rw [h];rfl
 · simp only [] at h0 h1 h2 h3 h4 h5
   subst h0
   unfold qk
   simp only []
   rw [qaf.2 ⟨h1.n,h2.n,h3⟩,decide_eq_false h4,decide_eq_false h5,qo3 h1,qo3 h2];rfl
theorem qa3 {s:Spn} (h:quT s) (h':s.1=false):Nz s.2.1∧Nz s.2.2∧ky s.2.1≤ky s.2.2∧s.2.1≠9218868437227405312∧s.2.2≠18442240474082181120:=by
 rcases h with h | h
 · rw [h] at h';cases h'
 · exact h.2
theorem spJ1 {a:Spn} (ha:SpW a):Qx [a]=qk a:=by
 show qq0 qaB a=_
 unfold qq0
 rcases JB ha with h | ⟨_,_,_,_,_,_,h⟩ <;> rw [h] <;> rfl
theorem qi8:ky 9218868437227405312=9218868437227405312:=by decide
theorem qlq:ky 18442240474082181120 = -9218868437227405312:=by decide
theorem qzL {lo hi:Int} (h1:Nz lo) (h2:Nz hi) (h:ky lo≤ky hi) (h4:lo≠9218868437227405312) (h5:hi≠18442240474082181120):Qw lo hi=(false,(lo,hi)):=qcl (.inr ⟨rfl,h1,h2,h,h4,h5⟩)
end Su
end
