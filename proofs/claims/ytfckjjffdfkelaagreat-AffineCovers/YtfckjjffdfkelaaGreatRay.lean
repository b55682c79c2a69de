/-
  Bits and rounding, in plain Lean. No condition.
-/
import Derived.Test.YtfckjjffdfkelaaGreatRro
import Derived.Test.YtfckjjffdfkelaaGreatNC26
import Derived.Test.YtfckjjffdfkelaaGreatRcs
import Derived.Test.YtfckjjffdfkelaaGreatSuSd
set_option maxRecDepth 10000
section
namespace Su
open Go Fly
set_option linter.unusedVariables false
noncomputable section
def lnS (nz:Int→Int):List Tm→Int
 | []=>0
 | t::l=>fv t.c.toNat*nz t.id+lnS nz l
def smN (nz:Int→Int) (a:Fm):Int:=8*fv a.2.1.toNat+lnS nz a.2.2.1
def Nz8 (nz:Int→Int):Prop:=∀ i,-8≤nz i∧nz i≤8
def qdt (nz:Int→Int) (a:Fm) (X k:Int):Prop:=a.1=true∨((smN nz a*k-X).natAbs:Int)≤8*fv a.2.2.2.toNat*k
theorem Qe {d n D:Int} (h:(d.natAbs:Int)≤D) (h1 : -8≤n) (h2:n≤8):((d*n).natAbs:Int)≤8*D:=by
 rw [Int.natAbs_mul,Int.natCast_mul]
 have h3:(n.natAbs:Int)≤8:=by omega
 have h4:(d.natAbs:Int)*(n.natAbs:Int)≤D*8:=by
  refine Int.le_trans (Int.mul_le_mul_of_nonneg_right h (by omega)) ?_
  exact Int.mul_le_mul_of_nonneg_left h3 (by omega)
 omega
theorem fv_0:fv (0:Int).toNat=0:=rfl
theorem qyW {e s E S:Int} (he:Up e E) (hs:Up s S):Up (upI [e,s]) (E+S):=by
 have:=Qr (Qr qyV he) hs
 rw [Int.zero_add] at this;exact this
theorem quy {m:Int}:fv (nzI m).toNat=fv m.toNat:=by
 unfold nzI
 cases hz:zI m with
 | true=>rw [cond_true,fv_0,JW (qjv.1 hz)]
 | false=>rfl
theorem qe2 (nz:Int→Int):∀ l:List Tm,lnS nz (qP l)=lnS nz l
 | []=>rfl
 | t::l=>by
  have ih:=qe2 nz l
  unfold qP at ih ⊢
  rw [List.filter_cons]
  cases hz:zI t.c with
  | true =>
   rw [Bool.not_true,if_neg (by simp),ih]
   show _=fv t.c.toNat*nz t.id+lnS nz l
   rw [JW (qjv.1 hz),Int.zero_mul,Int.zero_add]
  | false =>
   rw [Bool.not_false,if_pos rfl]
   show fv t.c.toNat*nz t.id+lnS nz _=fv t.c.toNat*nz t.id+lnS nz l
   rw [ih]
theorem qcM {m:Int} (h:fI (nzI m)=true):fI m=true:=by
 unfold nzI at h
 cases hz:zI m with
 | true=>exact jj.2 (by rw [qjv.1 hz];exact Nat.zero_le _)
 | false=>rw [hz] at h;exact h
theorem qaD {m e:Int} {l:List Tm} (h:(qH (false,(m,(l,e)))).1=false):fI m=true∧fI e=true∧(∀ t∈l,fI t.c=true)∧qH (false,(m,(l,e)))=(false,(nzI m,(qP l,nzI e))):=by
 rw [Ju] at h ⊢
 simp only [] at h ⊢
 cases hc:((fI (nzI m)&&fI (nzI e))&&!((qP l).any fun t=>!fI t.c)) with
 | false=>rw [hc] at h;cases h
 | true =>
  simp only [Bool.and_eq_true,Bool.not_eq_true'] at hc
  obtain ⟨⟨h1,h2⟩,h3⟩:=hc
  refine ⟨qcM h1,qcM h2,fun t ht=>?_,rfl⟩
  cases hz:zI t.c with
  | true=>exact jj.2 (by rw [qjv.1 hz];exact Nat.zero_le _)
  | false =>
   have:t∈qP l:=by
    unfold qP
    exact List.mem_filter.2 ⟨ht,by rw [hz];rfl⟩
   have:=List.any_eq_false.1 h3 t this
   simpa using this
theorem qDC {a:Fm} (h:okF a=true):0≤fv a.2.2.2.toNat:=by
 obtain ⟨_,hf⟩:=Qm h
 rw [qbo (jj.1 hf.err),qo7 h]
 unfold sgV;simp
theorem qDD {a:Fm} (h:okF a=true):Up a.2.2.2 (fv a.2.2.2.toNat):=yV (Qm h).2.err
def qcN (n d:Int) (s:Spn):Prop:=s.1=false∧(QA s.2.1.toNat=false→fv s.2.1.toNat*d≤n)∧(QA s.2.2.toNat=false→n≤fv s.2.2.toNat*d)
theorem qBg {m:Int} (h:Fw m):Fw (nzI m):=by
 unfold nzI
 cases zI m with
 | true=>exact qbL
 | false=>exact h
theorem qDE:FmW qbK:=⟨qbL,qbL,fun t ht=>by cases ht⟩
theorem qo8 {m e:Int} {l:List Tm} (hm:Fw m) (he:Fw e) (hl:∀ t∈l,Fw t.c):FmW (qH (false,(m,(l,e)))):=by
 rw [Ju]
 simp only []
 cases (fI (nzI m)&&fI (nzI e))&&!((qP l).any fun t=>!fI t.c) with
 | true=>exact ⟨qBg hm,qBg he,fun t ht=>hl t (List.mem_filter.1 (show t∈l.filter _ from ht)).1⟩
 | false=>exact qDE
end
end Su
end
section
namespace Su
open Go Fly
set_option linter.unusedVariables false
noncomputable section
theorem QY {α:Type} {b:Bool} {x y:α} (h:b=false):(bif b then x else y)=y:=by rw [h];rfl
theorem yh {α:Type} {b:Bool} {x y:α} (h:b=true):(bif b then x else y)=x:=by rw [h];rfl
def nzF (l:List Int) (id:Int):Int:=bif Nat.beq l.length 0||decide (id<0) then 0 else min (max ((l[(id.toNat % l.length)]?).getD 0) (-8)) 8
theorem nz8 (l:List Int):Nz8 (nzF l):=by
 intro i
 unfold nzF
 cases (Nat.beq l.length 0||decide (i<0)) with
 | true=>rw [cond_true];omega
 | false=>rw [cond_false];omega
def Q8:Nat:=8*QD
theorem qgi:0<Q8:=by unfold Q8;have:=qge;omega
theorem qBh (p r:Int) {q:Nat} (hq:0<q):qm1 (mkQ p q) (mkQ r q)=mkQ (p+r) q:=by
 rw [qoX p r hq hq,← Int.add_mul,yP _ _ hq]
theorem qFK (p r:Int) {q:Nat} (hq:0<q):qep (mkQ p q) (mkQ r q)=mkQ (p-r) q:=by
 rw [qyL p r hq hq,← Int.sub_mul,yP _ _ hq]
theorem qno (c n:Int):qgC (mkQ c QD) (mkQ n 8)=mkQ (c*n) Q8:=by
 rw [qoY c n qge (by omega),Nat.mul_comm QD 8];rfl
theorem qFL (c:Int):mkQ c QD=mkQ (8*c) Q8:=by
 have:=yP c QD (k:=8) (by omega)
 rw [← this,Int.mul_comm,Nat.mul_comm QD 8];rfl
theorem qlL (n:Int) (h1 : -8≤n) (h2:n≤8):Sz (mkQ n 8) 1:=qlB (by show n.natAbs<4294967296^1;rw [Nat.pow_one];omega) (by show 8<4294967296^1;rw [Nat.pow_one];omega) (by omega)
theorem quz {p:Int} (h:p.natAbs<1048576*2^BX):Sz (mkQ p Q8) 100:=by
 have h1:=qui
 have h2:=quh
 refine qlB ?_ ?_ (by omega)
 · rw [YR,show 32*100=20+BX+1082 by omega,Nat.pow_add,Nat.pow_add]
   refine Nat.lt_of_lt_of_le h ?_
   rw [show (1048576:Nat)=2^20 from rfl]
   generalize (1082:Nat)=m
   exact Nat.le_mul_of_pos_right _ (Nat.two_pow_pos m)
 · unfold Q8
   obtain ⟨c,hc,h3⟩:∃ c:Nat,32*100=3+EX+c∧1≤c:=⟨2123,by omega,by omega⟩
   rw [qo0,YR,hc,Nat.pow_add,Nat.pow_add]
   rw [show (8:Nat)=2^3 from rfl]
   have:1<2^c:=Nat.one_lt_two_pow (by omega)
   generalize (2:Nat)^c=m at *
   have hp:0<2^3*2^EX:=Nat.mul_pos (by omega) (Nat.two_pow_pos _)
   generalize 2^3*2^EX=n at *
   have:=Nat.mul_lt_mul_of_pos_left this hp
   omega
theorem quA {a b:Rt} {k m:Nat} (h:Sz a k) (h':Sz b m) (hk:1≤k) (hm:1≤m):Sz (qgC a b) (k+m) :=
 qaB (qcL (qa4 h hk).nu (qa4 h' hm).nu) (qcL (qa4 h hk).de (qa4 h' hm).de) (by omega)
theorem ok2 {a b:Rt} {k m:Nat} (h:Sz a k) (h':Sz b m) (hk:k≤400000) (hm:m≤400000):(ok4 a&&ok4 b)=true:=by rw [h.ok4 hk,h'.ok4 hm];rfl
theorem qo9 {a b:Rt} {k m:Nat} (h:Sz a k) (h':Sz b m) (hk:k≤400000) (hm:m≤400000):qaw (a,b)=some (qgC a b):=yh (ok2 h h' hk hm)
theorem qpa {a b:Rt} {k m:Nat} (h:Sz a k) (h':Sz b m) (hk:k≤400000) (hm:m≤400000):ZS (a,b)=some (qm1 a b):=yh (ok2 h h' hk hm)
theorem qyX {a b:Rt} {k m:Nat} (h:Sz a k) (h':Sz b m) (hk:k≤400000) (hm:m≤400000):qi4 (a,b)=some (qep a b):=yh (ok2 h h' hk hm)
theorem qyY {a b:Rt} {k m:Nat} (h:Sz a k) (h':Sz b m) (hk:k≤400000) (hm:m≤400000):ZT (a,b)=some (qdj a b):=yh (ok2 h h' hk hm)
theorem qFM {nz:Int→Int} {a:Fm} {R:Int} {k:Nat} (hk:0<k):decide (qdj (qmZ (qep (mkQ (smN nz a) Q8) (mkQ R (Q8*k)))) (ZU a.2.2.2.toNat)≤0)=decide (((smN nz a*k-R).natAbs:Int)≤8*fv a.2.2.2.toNat*k):=by
 have h8:=qgi
 have hq:=qge
 have hk8:0<Q8*k:=Nat.mul_pos h8 hk
 have e1:qep (mkQ (smN nz a) Q8) (mkQ R (Q8*k))=mkQ (smN nz a*k-R) (Q8*k):=by
  have:mkQ (smN nz a) Q8=mkQ (smN nz a*k) (Q8*k):=(yP _ _ hk).symm
  rw [this,qFK _ _ hk8]
 rw [e1,qyM _ hk8,JU,qjm _ _ hk8 hq,qjq]
 generalize (smN nz a*k-R).natAbs=d
 have e2:fv a.2.2.2.toNat*((Q8*k:Nat):Int)=8*fv a.2.2.2.toNat*k*(QD:Int):=by
  unfold Q8
  rw [Int.natCast_mul,Int.natCast_mul]
  grind
 rw [e2]
 by_cases h:(d:Int)≤8*fv a.2.2.2.toNat*k
 · rw [decide_eq_true h,decide_eq_true (Int.mul_le_mul_of_nonneg_right h (by omega))]
 · rw [decide_eq_false h,decide_eq_false fun h'=>h (Int.le_of_mul_le_mul_right h' (by omega))]
theorem lo_q {lo R:Int} {k:Nat} (hk:0<k):decide (qdj (ZU lo.toNat) (mkQ R (Q8*k))≤0)=decide (fv lo.toNat*(8*k)≤R):=by
 have h8:=qgi
 have hq:=qge
 rw [JU,qjm _ _ hq (Nat.mul_pos h8 hk),qjq]
 have e2:fv lo.toNat*((Q8*k:Nat):Int)=fv lo.toNat*(8*k)*(QD:Int):=by
  unfold Q8
  rw [Int.natCast_mul,Int.natCast_mul]
  grind
 rw [e2]
 by_cases h:fv lo.toNat*(8*k)≤R
 · rw [decide_eq_true h,decide_eq_true (Int.mul_le_mul_of_nonneg_right h (by omega))]
 · rw [decide_eq_false h,decide_eq_false fun h'=>h (Int.le_of_mul_le_mul_right h' (by omega))]
theorem hi_q {hi R:Int} {k:Nat} (hk:0<k):decide (qdj (mkQ R (Q8*k)) (ZU hi.toNat)≤0)=decide (R≤fv hi.toNat*(8*k)):=by
 have h8:=qgi
 have hq:=qge
 rw [JU,qjm _ _ (Nat.mul_pos h8 hk) hq,qjq]
 have e2:fv hi.toNat*((Q8*k:Nat):Int)=fv hi.toNat*(8*k)*(QD:Int):=by
  unfold Q8
  rw [Int.natCast_mul,Int.natCast_mul]
  grind
 rw [e2]
 by_cases h:R≤fv hi.toNat*(8*k)
 · rw [decide_eq_true h,decide_eq_true (Int.mul_le_mul_of_nonneg_right h (by omega))]
 · rw [decide_eq_false h,decide_eq_false fun h'=>h (Int.le_of_mul_le_mul_right h' (by omega))]
theorem qBi {nz:Int→Int} (hz:Nz8 nz):∀ l:List Tm,(lnS nz l).natAbs≤8*l.length*2^BX
 | []=>Nat.zero_le _
 | t::l=>by
  have ih:=qBi hz l
  have k:=Qe (d:=fv t.c.toNat) (Int.le_refl _) (hz t.id).1 (hz t.id).2
  have h:=qjn t.c.toNat
  have e:8*(t::l).length*2^BX=8*2^BX+8*l.length*2^BX:=by rw [List.length_cons,Nat.mul_add,Nat.add_mul];omega
  rw [e]
  show (fv t.c.toNat*nz t.id+lnS nz l).natAbs≤_
  generalize 8*l.length*2^BX=u at *
  omega
theorem quB {nz:Int→Int} (hz:Nz8 nz) {a:Fm} (hl:a.2.2.1.length≤1000):(smN nz a).natAbs<16384*2^BX:=by
 have h1:=qBi hz a.2.2.1
 have h2:=qjn a.2.1.toNat
 have h3:8*a.2.2.1.length*2^BX≤8000*2^BX:=Nat.mul_le_mul_right _ (by omega)
 unfold smN
 omega
end
end Su
end
section
namespace Su
open Go Fly
set_option linter.unusedVariables false
noncomputable section
def YF {S R:Type} (K:Nat) (F:S→Option (S ⊕ R)) (s:S) (r:R):Prop:=∀ m,K≤m→itP m F s=some r
theorem YF.next {S R:Type} {K:Nat} {F:S→Option (S ⊕ R)} {s s':S} {r:R} (h:F s=some (.inl s')) (hn:YF K F s' r):YF (K+1) F s r:=fun m hm=>by
 obtain ⟨j,rfl⟩:∃ j,m=j+1:=⟨m-1,by omega⟩
 rw [qA,h]
 exact hn j (by omega)
theorem YF.stop {S R:Type} {K:Nat} {F:S→Option (S ⊕ R)} {s:S} {r:R} (h:F s=some (.inr r)):YF (K+1) F s r:=fun m hm=>by
 obtain ⟨j,rfl⟩:∃ j,m=j+1:=⟨m-1,by omega⟩
 rw [qA,h];rfl
theorem YF.up {S R:Type} {K K':Nat} {F:S→Option (S ⊕ R)} {s:S} {r:R} (h:YF K F s r) (hk:K≤K'):YF K' F s r:=fun m hm=>h m (by omega)
def qqL (n:Nat) (f:Nat→Bool):Bool:=(List.range n).all f
theorem qlM {n:Nat} {f:Nat→Bool}:qqL n f=true↔∀ i,i<n→f i=true:=by
 unfold qqL
 simp [List.all_eq_true,List.mem_range]
theorem quC {n:Nat} {f:Nat→Bool}:qqL n f=false↔∃ i,i<n∧f i=false:=by
 rw [← Bool.not_eq_true,qlM]
 constructor
 · intro h
   by_cases hn:∃ i,i<n∧f i=false
   · exact hn
   · exact absurd (fun i hi=>by cases hf:f i with | true=>rfl | false=>exact absurd ⟨i,hi,hf⟩ hn) h
 · rintro ⟨i,hi,hf⟩ h
   rw [h i hi] at hf;cases hf
theorem qhE {S R:Type} {F:S→Option (S ⊕ R)} {mk:Nat→S} {n:Nat} {ok:Nat→Bool} {r0 r1:R}
 (h1:∀ i,i<n→ok i=true→F (mk i)=some (.inl (mk (i+1)))) (h2:∀ i,i<n→ok i=false→F (mk i)=some (.inr r1)) (h0:F (mk n)=some (.inr r0)) :
 ∀ (j i:Nat),i+j=n→YF (j+1) F (mk i) (bif (List.range' i j).all ok then r0 else r1)
 | 0,i,h=>by
  have:i=n:=by omega
  subst this
  exact YF.stop h0
 | j+1,i,h=>by
  rw [List.range'_succ,List.all_cons]
  cases hk:ok i with
  | true=>exact YF.next (h1 i (by omega) hk) (by simpa using qhE h1 h2 h0 j (i+1) (by omega))
  | false=>exact YF.stop (h2 i (by omega) hk)
theorem quD {S R:Type} {F:S→Option (S ⊕ R)} {mk:Nat→S} {n:Nat} {ok:Nat→Bool} {r0 r1:R}
 (h1:∀ i,i<n→ok i=true→F (mk i)=some (.inl (mk (i+1)))) (h2:∀ i,i<n→ok i=false→F (mk i)=some (.inr r1)) (h0:F (mk n)=some (.inr r0)) :
 YF (n+1) F (mk 0) (bif qqL n ok then r0 else r1):=by
 have:=qhE h1 h2 h0 n 0 (by omega)
 rwa [← List.range_eq_range'] at this
theorem ixl {α:Type} {l:List α} {i:Nat} (h:i<l.length):idx l (i:Int)=some l[i]:=by
 rw [jJ,List.getElem?_eq_getElem h]
theorem w1 {i n:Nat} (h:i<n) (hn:n≤maxLen):IntKind.i64.wrap ((i:Int)+1)=((i+1:Nat):Int):=by
 rw [jQ] at hn
 rw [w64 (by omega) (by omega)];rfl
theorem ltN (i n:Nat):decide ((i:Int)<(n:Int))=decide (i<n):=by
 by_cases h:i<n
 · rw [decide_eq_true h,decide_eq_true (by omega)]
 · rw [decide_eq_false h,decide_eq_false (by omega)]
end
end Su
end
section
namespace Su
open Go Fly
set_option linter.unusedVariables false
noncomputable section
def qyZ  (a:(Bool×((List Int)×(List Int)))) (b:(Bool×((List Int)×(List Int)))):Option ((Bool×((List Int)×(List Int)))×Int) :=
 ((JG b)).bind fun x0 =>
 ((Len x0.2.1)).bind fun x1 =>
 (bif (decide ((x1=0))) then
 some ((false,([],[])),(30:Int))
 else
  ((qaw (a,(x0.1,(x0.2.2,x0.2.1))))).bind fun x2 =>
  some (x2,(0:Int)))
def swR (b:Rt):Rt:=((yE b).1,((yE b).2.2,(yE b).2.1))
def qDF (a b:Rt):Rt:=qgC a (swR b)
def qdu (p:Rt×Rt):Option (Rt×Int):=bif (ok4 p.1&&ok4 p.2)&&!decide (nu (yE p.2)=0) then some (qDF p.1 p.2,0) else none
theorem qy0 (p:Rt×Rt) (y:Rt×Int) (hg:(dc cRt (d1 cRt)).good p) (h:qdu p=some y):qyZ p.1 p.2=some y:=by
 obtain ⟨a,b⟩:=p
 obtain ⟨h1,h⟩:=qj h
 have:=soi h;subst this
 rw [Bool.and_eq_true,Bool.and_eq_true,Bool.not_eq_true',decide_eq_false_iff_not] at h1
 obtain ⟨⟨h1,h2⟩,h3⟩:=h1
 have h3:qa (yE b).2.1≠0:=h3
 obtain ⟨hl,ht⟩:JG b=some (yE b)∧Tidy (yE b):=ZR hg.2 h2
 have hb:qn (qa (yE b).2.1)≤32*400000:=by
  refine j0.2 ?_
  have hn:=jg _ ht.wn
  have hl:=ht.ln
  rw [YR] at hn
  generalize (400000:Nat)=m at *
  exact Nat.lt_of_lt_of_le hn (Nat.pow_le_pow_right (by omega) (Nat.mul_le_mul_left _ hl))
 show qyZ a b=some (qDF a b,0)
 unfold qyZ
 refine obB hl (obB (qiX _ (by omega)) ?_)
 have hz:qn (qa (yE b).2.1)≠0:=fun e=>h3 (by
  have:=(j0 (n:=qa (yE b).2.1) (k:=0)).1 (by omega)
  omega)
 refine (QY (decide_eq_false (by omega))).trans ?_
 refine obB (x:=qDF a b) (show qaw (a,swR b)=_ from yh ?_) rfl
 show (ok4 a&&ok4 (swR b))=true
 have h1:ok4 a=true:=h1
 rw [h1]
 unfold ok4 swR
 rw [Nat.ble_eq_true_of_le ht.ln,Nat.ble_eq_true_of_le ht.ld];rfl
end
end Su
end
section
namespace Su
open Go Fly
set_option linter.unusedVariables false
noncomputable section
def qpb  (l:(List Int)) (id:Int):Option (Bool×((List Int)×(List Int))) :=
 (bif (decide (((((List.length l):Nat):Int)=0))) then
 some (yB false 0 1)
 else
  (bif (decide ((id<0))) then
  some (yB false 0 1)
 else
  (bif (decide (((((List.length l):Nat):Int)=0))) then
  none
 else
  ((idx l (Int.tmod id (((List.length l):Nat):Int)))).bind fun x0 =>
  ((qdu ((yB (decide (((min (max x0 (-8)) 8)<0))) (Int.natAbs (min (max x0 (-8)) 8)) 1),(yB false 8 1)))).bind fun x1 =>
  some x1.1)))
def qpc (p:List Int×Int):Option Rt:=some (mkQ (nzF p.1 p.2) 8)
theorem qBj:yB false 0 1=mkQ 0 8:=by
 show mkQ 0 1=mkQ 0 8
 have:=yP 0 1 (k:=8) (by omega)
 rw [← this];rfl
theorem mk81:mkQ 8 1=(false,([8],[1])):=by unfold mkQ;rw [JP];rfl
theorem mk18:mkQ 1 8=(false,([1],[8])):=by unfold mkQ;rw [JP];rfl
theorem div8 {k:Int} (h1 : -8≤k) (h2:k≤8):qdu (mkQ k 1,mkQ 8 1)=some (mkQ k 8,0):=by
 have hs:Sz (mkQ k 1) 1:=qlB (by rw [Nat.pow_one];omega) (by rw [Nat.pow_one];omega) (by omega)
 have h8:Sz (mkQ 8 1) 1:=qlB (by rw [Nat.pow_one];decide) (by rw [Nat.pow_one];omega) (by omega)
 have hl:yE (mkQ 8 1)=mkQ 8 1:=ZW 8 (by omega)
 have hn:nu (yE (mkQ 8 1))≠0:=by rw [hl,mk81];show qa [8]≠0;decide
 unfold qdu
 simp only []
 rw [hs.ok4 (by omega),h8.ok4 (by omega),decide_eq_false hn]
 refine congrArg (fun z=>some (z,(0:Int))) ?_
 show qgC (mkQ k 1) (swR (mkQ 8 1))=mkQ k 8
 have:swR (mkQ 8 1)=mkQ 1 8:=by unfold swR;rw [hl,mk81,mk18]
 rw [this,qoY k 1 (by omega) (by omega),Int.mul_one]
theorem quE (p:List Int×Int) (y:Rt) (hg:(dc (cQ 3 1) (d1 (cI .i64))).good p) (h:qpc p=some y):qpb p.1 p.2=some y:=by
 obtain ⟨l,id⟩:=p
 have:=soi h;subst this
 show qpb l id=some (mkQ (nzF l id) 8)
 unfold qpb nzF
 have e0:decide (((l.length:Nat):Int)=0)=Nat.beq l.length 0:=by rw [show (0:Int)=((0:Nat):Int) from rfl,qbE,beq_dec]
 rw [e0]
 cases hl:Nat.beq l.length 0 with
 | true=>rw [qBj];rfl
 | false =>
  by_cases hi:id<0
  · rw [decide_eq_true hi,qBj];rfl
  · rw [decide_eq_false hi]
    simp only [cond_false,Bool.or_self]
    have yG:0<l.length:=Nat.pos_of_ne_zero fun e=>by rw [e] at hl;cases hl
    obtain ⟨n,rfl⟩:=Int.eq_ofNat_of_zero_le (show 0≤id by omega)
    have e1:Int.tmod (n:Int) ((l.length:Nat):Int)=((n % l.length:Nat):Int):=rfl
    have hlt:=Nat.mod_lt n yG
    rw [e1]
    refine obB (ixl hlt) ?_
    rw [Int.toNat_natCast,List.getElem?_eq_getElem hlt]
    exact obB (div8 (k:=min (max l[n % l.length] (-8)) 8) (by omega) (by omega)) rfl
end
end Su
end
