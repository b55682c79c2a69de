/-
  What functions of the program compute, in plain Lean, and that the evaluator finds it.
-/
import Derived.Test.YtfckjjffdfkelaaGreatSuSd
import Derived.Test.YtfckjjffdfkelaaGreatNC31
set_option maxRecDepth 10000
namespace Su
open Go Fly
set_option linter.unusedVariables false
noncomputable section
def qa8 (a:Fm) (b:Fm) (noises:(List Int)) (p:Int) (most:Int) :=
 bif (decide ((8<(((List.length a.2.2.1):Nat):Int)))) then
 some (noises,(p,(most,(true,(true,(a.1,(a.2.1,(a.2.2.1,(a.2.2.2,(b.1,(b.2.1,(b.2.2.1,(b.2.2.2,())))))))))))))
 else
  (bif (decide ((8<(((List.length b.2.2.1):Nat):Int)))) then
  some (noises,(p,(most,(true,(true,(a.1,(a.2.1,(a.2.2.1,(a.2.2.2,(b.1,(b.2.1,(b.2.2.1,(b.2.2.2,())))))))))))))
 else
  (bif a.1 then
  some (noises,(p,(most,(true,(true,(a.1,(a.2.1,(a.2.2.1,(a.2.2.2,(b.1,(b.2.1,(b.2.2.1,(b.2.2.2,())))))))))))))
 else
  (bif b.1 then
  some (noises,(p,(most,(true,(true,(a.1,(a.2.1,(a.2.2.1,(a.2.2.2,(b.1,(b.2.1,(b.2.2.1,(b.2.2.2,())))))))))))))
 else
  (bif (!(yU a)) then
  some (noises,(p,(most,(true,(true,(a.1,(a.2.1,(a.2.2.1,(a.2.2.2,(b.1,(b.2.1,(b.2.2.1,(b.2.2.2,())))))))))))))
 else
  some (noises,(p,(most,(true,((!(yU b)),(a.1,(a.2.1,(a.2.2.1,(a.2.2.2,(b.1,(b.2.1,(b.2.2.1,(b.2.2.2,())))))))))))))))))
def qcT (a:Fm) (b:Fm) (noises:(List Int)) (p:Int) (most:Int) :=
 fun x5035 =>
 bif (!x5035) then
 some false
 else
  ((qa8 a b noises p most)).bind fun x7 =>
  (bif x7.2.2.2.2.1 then
  some x7.2.2.2.1
 else
  ((yY ((x7.2.2.2.2.2.1,(x7.2.2.2.2.2.2.1,(x7.2.2.2.2.2.2.2.1,x7.2.2.2.2.2.2.2.2.1))),(x7.1,x7.2.1)))).bind fun x8 =>
  ((yY ((x7.2.2.2.2.2.2.2.2.2.1,(x7.2.2.2.2.2.2.2.2.2.2.1,(x7.2.2.2.2.2.2.2.2.2.2.2.1,x7.2.2.2.2.2.2.2.2.2.2.2.2.1))),(x7.1,x7.2.1)))).bind fun x9 =>
  ((ZY ((x7.2.2.2.2.2.1,(x7.2.2.2.2.2.2.1,(x7.2.2.2.2.2.2.2.1,x7.2.2.2.2.2.2.2.2.1))),(x7.2.2.2.2.2.2.2.2.2.1,(x7.2.2.2.2.2.2.2.2.2.2.1,(x7.2.2.2.2.2.2.2.2.2.2.2.1,x7.2.2.2.2.2.2.2.2.2.2.2.2.1)))))).bind fun x10 =>
  ((ZX ((x7.2.2.2.2.2.1,(x7.2.2.2.2.2.2.1,(x7.2.2.2.2.2.2.2.1,x7.2.2.2.2.2.2.2.2.1))),x7.2.2.1))).bind fun x11 =>
  ((JX ((x7.2.2.2.2.2.1,(x7.2.2.2.2.2.2.1,(x7.2.2.2.2.2.2.2.1,x7.2.2.2.2.2.2.2.2.1))),x7.2.2.2.2.2.2.2.2.2.2.1))).bind fun x12 =>
  ((bif x7.2.2.2.1 then
  ((qT (x10,(x7.1,x8)))).bind fun x13 =>
  (bif x13 then
  ((qT (x10,(x7.1,x9)))).bind fun x14 =>
  (bif x14 then
  ((qT (x11,(x7.1,x8)))).bind fun x15 =>
  (bif x15 then
  ((qT (x12,(x7.1,x8)))).bind fun x16 =>
  (bif x16 then
  some ((decide (((((List.length x11.2.2.1):Nat):Int)≤(max x7.2.2.1 0)))),())
 else
  some (false,()))
 else
  some (false,()))
 else
  some (false,()))
 else
  some (false,()))
 else
  some (false,()))).bind fun x17 =>
  some x17.1)
def qzo  (a:Fm) (b:Fm) (noises:(List Int)) (p:Int) (most:Int) (s:(Bool×(Int×Int))):Option Bool :=
 ((Je s.2.1)).bind fun x0 =>
 ((Je s.2.2)).bind fun x1 =>
 (bif (!(Qf s 3).1) then
 (bif x0.2 then
 (bif x1.2 then
 ((Ql (Qf s 3))).bind fun x2 =>
 (bif (!(qnh s x2)) then
 some false
 else
  (bif (!(Qf s 3).1) then
  ((Ql (Qf s 3))).bind fun x3 =>
  ((qaE (x0.1,x3))).bind fun x4 =>
  (bif (!x4) then
  some false
 else
  ((Ql (Qf s 3))).bind fun x5 =>
  ((qaE (x1.1,x5))).bind fun x6 =>
  (qcT a b noises p most x6))
 else
  ((qa8 a b noises p most)).bind fun x18 =>
  (bif x18.2.2.2.2.1 then
  some x18.2.2.2.1
 else
  ((yY ((x18.2.2.2.2.2.1,(x18.2.2.2.2.2.2.1,(x18.2.2.2.2.2.2.2.1,x18.2.2.2.2.2.2.2.2.1))),(x18.1,x18.2.1)))).bind fun x19 =>
  ((yY ((x18.2.2.2.2.2.2.2.2.2.1,(x18.2.2.2.2.2.2.2.2.2.2.1,(x18.2.2.2.2.2.2.2.2.2.2.2.1,x18.2.2.2.2.2.2.2.2.2.2.2.2.1))),(x18.1,x18.2.1)))).bind fun x20 =>
  ((ZY ((x18.2.2.2.2.2.1,(x18.2.2.2.2.2.2.1,(x18.2.2.2.2.2.2.2.1,x18.2.2.2.2.2.2.2.2.1))),(x18.2.2.2.2.2.2.2.2.2.1,(x18.2.2.2.2.2.2.2.2.2.2.1,(x18.2.2.2.2.2.2.2.2.2.2.2.1,x18.2.2.2.2.2.2.2.2.2.2.2.2.1)))))).bind fun x21 =>
  ((ZX ((x18.2.2.2.2.2.1,(x18.2.2.2.2.2.2.1,(x18.2.2.2.2.2.2.2.1,x18.2.2.2.2.2.2.2.2.1))),x18.2.2.1))).bind fun x22 =>
  ((JX ((x18.2.2.2.2.2.1,(x18.2.2.2.2.2.2.1,(x18.2.2.2.2.2.2.2.1,x18.2.2.2.2.2.2.2.2.1))),x18.2.2.2.2.2.2.2.2.2.2.1))).bind fun x23 =>
  ((bif x18.2.2.2.1 then
  ((qT (x21,(x18.1,x19)))).bind fun x24 =>
  (bif x24 then
  ((qT (x21,(x18.1,x20)))).bind fun x25 =>
  (bif x25 then
  ((qT (x22,(x18.1,x19)))).bind fun x26 =>
  (bif x26 then
  ((qT (x23,(x18.1,x19)))).bind fun x27 =>
  (bif x27 then
  some ((decide (((((List.length x22.2.2.1):Nat):Int)≤(max x18.2.2.1 0)))),())
 else
  some (false,()))
 else
  some (false,()))
 else
  some (false,()))
 else
  some (false,()))
 else
  some (false,()))).bind fun x28 =>
  some x28.1)))
 else
  (bif (!(Qf s 3).1) then
  ((Ql (Qf s 3))).bind fun x29 =>
  ((qaE (x0.1,x29))).bind fun x30 =>
  (bif (!x30) then
  some false
 else
  ((Ql (Qf s 3))).bind fun x31 =>
  ((qaE (x1.1,x31))).bind fun x32 =>
  (qcT a b noises p most x32))
 else
  ((qa8 a b noises p most)).bind fun x44 =>
  (bif x44.2.2.2.2.1 then
  some x44.2.2.2.1
 else
  ((yY ((x44.2.2.2.2.2.1,(x44.2.2.2.2.2.2.1,(x44.2.2.2.2.2.2.2.1,x44.2.2.2.2.2.2.2.2.1))),(x44.1,x44.2.1)))).bind fun x45 =>
  ((yY ((x44.2.2.2.2.2.2.2.2.2.1,(x44.2.2.2.2.2.2.2.2.2.2.1,(x44.2.2.2.2.2.2.2.2.2.2.2.1,x44.2.2.2.2.2.2.2.2.2.2.2.2.1))),(x44.1,x44.2.1)))).bind fun x46 =>
  ((ZY ((x44.2.2.2.2.2.1,(x44.2.2.2.2.2.2.1,(x44.2.2.2.2.2.2.2.1,x44.2.2.2.2.2.2.2.2.1))),(x44.2.2.2.2.2.2.2.2.2.1,(x44.2.2.2.2.2.2.2.2.2.2.1,(x44.2.2.2.2.2.2.2.2.2.2.2.1,x44.2.2.2.2.2.2.2.2.2.2.2.2.1)))))).bind fun x47 =>
  ((ZX ((x44.2.2.2.2.2.1,(x44.2.2.2.2.2.2.1,(x44.2.2.2.2.2.2.2.1,x44.2.2.2.2.2.2.2.2.1))),x44.2.2.1))).bind fun x48 =>
  ((JX ((x44.2.2.2.2.2.1,(x44.2.2.2.2.2.2.1,(x44.2.2.2.2.2.2.2.1,x44.2.2.2.2.2.2.2.2.1))),x44.2.2.2.2.2.2.2.2.2.2.1))).bind fun x49 =>
  ((bif x44.2.2.2.1 then
  ((qT (x47,(x44.1,x45)))).bind fun x50 =>
  (bif x50 then
  ((qT (x47,(x44.1,x46)))).bind fun x51 =>
  (bif x51 then
  ((qT (x48,(x44.1,x45)))).bind fun x52 =>
  (bif x52 then
  ((qT (x49,(x44.1,x45)))).bind fun x53 =>
  (bif x53 then
  some ((decide (((((List.length x48.2.2.1):Nat):Int)≤(max x44.2.2.1 0)))),())
 else
  some (false,()))
 else
  some (false,()))
 else
  some (false,()))
 else
  some (false,()))
 else
  some (false,()))).bind fun x54 =>
  some x54.1)))
 else
  (bif (!(Qf s 3).1) then
  ((Ql (Qf s 3))).bind fun x55 =>
  ((qaE (x0.1,x55))).bind fun x56 =>
  (bif (!x56) then
  some false
 else
  ((Ql (Qf s 3))).bind fun x57 =>
  ((qaE (x1.1,x57))).bind fun x58 =>
  (qcT a b noises p most x58))
 else
  ((qa8 a b noises p most)).bind fun x70 =>
  (bif x70.2.2.2.2.1 then
  some x70.2.2.2.1
 else
  ((yY ((x70.2.2.2.2.2.1,(x70.2.2.2.2.2.2.1,(x70.2.2.2.2.2.2.2.1,x70.2.2.2.2.2.2.2.2.1))),(x70.1,x70.2.1)))).bind fun x71 =>
  ((yY ((x70.2.2.2.2.2.2.2.2.2.1,(x70.2.2.2.2.2.2.2.2.2.2.1,(x70.2.2.2.2.2.2.2.2.2.2.2.1,x70.2.2.2.2.2.2.2.2.2.2.2.2.1))),(x70.1,x70.2.1)))).bind fun x72 =>
  ((ZY ((x70.2.2.2.2.2.1,(x70.2.2.2.2.2.2.1,(x70.2.2.2.2.2.2.2.1,x70.2.2.2.2.2.2.2.2.1))),(x70.2.2.2.2.2.2.2.2.2.1,(x70.2.2.2.2.2.2.2.2.2.2.1,(x70.2.2.2.2.2.2.2.2.2.2.2.1,x70.2.2.2.2.2.2.2.2.2.2.2.2.1)))))).bind fun x73 =>
  ((ZX ((x70.2.2.2.2.2.1,(x70.2.2.2.2.2.2.1,(x70.2.2.2.2.2.2.2.1,x70.2.2.2.2.2.2.2.2.1))),x70.2.2.1))).bind fun x74 =>
  ((JX ((x70.2.2.2.2.2.1,(x70.2.2.2.2.2.2.1,(x70.2.2.2.2.2.2.2.1,x70.2.2.2.2.2.2.2.2.1))),x70.2.2.2.2.2.2.2.2.2.2.1))).bind fun x75 =>
  ((bif x70.2.2.2.1 then
  ((qT (x73,(x70.1,x71)))).bind fun x76 =>
  (bif x76 then
  ((qT (x73,(x70.1,x72)))).bind fun x77 =>
  (bif x77 then
  ((qT (x74,(x70.1,x71)))).bind fun x78 =>
  (bif x78 then
  ((qT (x75,(x70.1,x71)))).bind fun x79 =>
  (bif x79 then
  some ((decide (((((List.length x74.2.2.1):Nat):Int)≤(max x70.2.2.1 0)))),())
 else
  some (false,()))
 else
  some (false,()))
 else
  some (false,()))
 else
  some (false,()))
 else
  some (false,()))).bind fun x80 =>
  some x80.1)))
 else
  (bif (!(Qf s 3).1) then
  ((Ql (Qf s 3))).bind fun x81 =>
  ((qaE (x0.1,x81))).bind fun x82 =>
  (bif (!x82) then
  some false
 else
  ((Ql (Qf s 3))).bind fun x83 =>
  ((qaE (x1.1,x83))).bind fun x84 =>
  (qcT a b noises p most x84))
 else
  ((qa8 a b noises p most)).bind fun x96 =>
  (bif x96.2.2.2.2.1 then
  some x96.2.2.2.1
 else
  ((yY ((x96.2.2.2.2.2.1,(x96.2.2.2.2.2.2.1,(x96.2.2.2.2.2.2.2.1,x96.2.2.2.2.2.2.2.2.1))),(x96.1,x96.2.1)))).bind fun x97 =>
  ((yY ((x96.2.2.2.2.2.2.2.2.2.1,(x96.2.2.2.2.2.2.2.2.2.2.1,(x96.2.2.2.2.2.2.2.2.2.2.2.1,x96.2.2.2.2.2.2.2.2.2.2.2.2.1))),(x96.1,x96.2.1)))).bind fun x98 =>
  ((ZY ((x96.2.2.2.2.2.1,(x96.2.2.2.2.2.2.1,(x96.2.2.2.2.2.2.2.1,x96.2.2.2.2.2.2.2.2.1))),(x96.2.2.2.2.2.2.2.2.2.1,(x96.2.2.2.2.2.2.2.2.2.2.1,(x96.2.2.2.2.2.2.2.2.2.2.2.1,x96.2.2.2.2.2.2.2.2.2.2.2.2.1)))))).bind fun x99 =>
  ((ZX ((x96.2.2.2.2.2.1,(x96.2.2.2.2.2.2.1,(x96.2.2.2.2.2.2.2.1,x96.2.2.2.2.2.2.2.2.1))),x96.2.2.1))).bind fun x100 =>
  ((JX ((x96.2.2.2.2.2.1,(x96.2.2.2.2.2.2.1,(x96.2.2.2.2.2.2.2.1,x96.2.2.2.2.2.2.2.2.1))),x96.2.2.2.2.2.2.2.2.2.2.1))).bind fun x101 =>
  ((bif x96.2.2.2.1 then
  ((qT (x99,(x96.1,x97)))).bind fun x102 =>
  (bif x102 then
  ((qT (x99,(x96.1,x98)))).bind fun x103 =>
  (bif x103 then
  ((qT (x100,(x96.1,x97)))).bind fun x104 =>
  (bif x104 then
  ((qT (x101,(x96.1,x97)))).bind fun x105 =>
  (bif x105 then
  some ((decide (((((List.length x100.2.2.1):Nat):Int)≤(max x96.2.2.1 0)))),())
 else
  some (false,()))
 else
  some (false,()))
 else
  some (false,()))
 else
  some (false,()))
 else
  some (false,()))).bind fun x106 =>
  some x106.1)))
theorem qqU (f:Int→Int→Int→Int×Int):∀ (n:Nat) (l m:List Tm) (e:Int),(qh f n l m e).1.length≤n:=by
 intro n
 induction n with
 | zero=>intro l m e;exact Nat.zero_le _
 | succ n ih =>
  have one:∀ (id:Int) (r:Int×Int) (l' m':List Tm),(jI id r (qh f n l' m')).1.length≤n+1:=fun id r l' m'=>by
   show (qh f n l' m' r.2).1.length+1≤n+1
   have:=ih l' m' r.2;omega
  intro l m e
  match l,m with
  | [],[]=>exact Nat.zero_le _
  | a::l,[]=>exact one _ _ _ _
  | [],b::m=>exact one _ _ _ _
  | a::l,b::m =>
   simp only [qh]
   cases decide (a.id<b.id) with
   | true=>exact one _ _ _ _
   | false =>
    cases decide (b.id<a.id) with
    | true=>exact one _ _ _ _
    | false=>exact one _ _ _ _
theorem qjy {m e:Int} {l:List Tm} (hl:l.length≤1000):(qH (false,(m,(l,e)))).1=true∨okW (qH (false,(m,(l,e))))=true:=by
 rw [Ju]
 simp only []
 cases hc:(fI (nzI m)&&fI (nzI e))&&!((qP l).any fun t=>!fI t.c) with
 | false=>exact .inl rfl
 | true =>
  right
  rw [Bool.and_eq_true,Bool.and_eq_true,Bool.not_eq_true'] at hc
  obtain ⟨⟨h1,h2⟩,h3⟩:=hc
  show (quG (false,(nzI m,(qP l,nzI e)))&&Nat.ble (qP l).length 1000)=true
  rw [Bool.and_eq_true,qcO]
  refine ⟨⟨h1,h2,fun t ht=>?_⟩,Nat.ble_eq_true_of_le (Nat.le_trans (List.length_filter_le _ _) hl)⟩
  have:=List.any_eq_false.1 h3 t ht
  simpa using this
theorem qnt (x:Fm):(qH x).2.2.1.length≤x.2.2.1.length:=by
 rw [Ju]
 cases (fI (nzI x.2.1)&&fI (nzI x.2.2.2))&&!((qP x.2.2.1).any fun t=>!fI t.c) with
 | true=>exact List.length_filter_le _ _
 | false=>exact Nat.zero_le _
theorem qjz {r:Rt} {k:Nat} (h:Sz r k) (hk:k≤1000):okK r=true:=by
 unfold okK
 rw [Nat.ble_eq_true_of_le (Nat.le_trans h.ln hk),Nat.ble_eq_true_of_le (Nat.le_trans h.ld hk)];rfl
theorem qe6 {c:Fm} {l:List Int} {R:Int} {k:Nat} (hk:0<k) (hw:c.1=true∨okW c=true) (hr:okK (mkQ R (Q8*k))=true) (h:qdt (nzF l) c R k):qT (c,(l,mkQ R (Q8*k)))=some true:=by
 unfold qT
 cases hb:c.1 with
 | true=>exact yh rfl
 | false =>
  refine (QY rfl).trans ((yh (show (okW c&&okK (mkQ R (Q8*k)))=true by rw [hr,Bool.and_true];exact hw.resolve_left (by rw [hb];simp))).trans (congrArg some ?_))
  show quI c l (mkQ R (Q8*k))=true
  unfold quI
  rw [qFM hk]
  exact decide_eq_true (h.resolve_left (by rw [hb];simp))
theorem qDR {R:Int} {k:Nat} {s:Spn} (hk:0<k) (h:qcN R (8*(k:Int)) s):quF (mkQ R (Q8*k)) s=true:=by
 obtain ⟨h1,h2,h3⟩:=h
 unfold quF
 rw [h1,lo_q hk,hi_q hk]
 cases hn:QA s.2.1.toNat with
 | true =>
  cases hm:QA s.2.2.toNat with
  | true=>rfl
  | false=>rw [decide_eq_true (h3 hm)];rfl
 | false =>
  rw [decide_eq_true (h2 hn)]
  cases hm:QA s.2.2.toNat with
  | true=>rfl
  | false=>rw [decide_eq_true (h3 hm)];rfl
theorem quW (l:List Int) {a:Fm} (ha:okF a=true) (p:Int):qdt (nzF l) a (nmN (nzF l) a p) 1:=by
 right
 have h:=qDC ha
 have k : -8≤min (max p (-8)) 8∧min (max p (-8)) 8≤8:=by omega
 unfold nmN
 have k:=Qe (d:=fv a.2.2.2.toNat) (Int.le_refl _) k.1 k.2
 generalize fv a.2.2.2.toNat*min (max p (-8)) 8=u at *
 rw [Int.mul_one,Int.mul_one]
 omega
theorem qBs (l:List Int) {a:Fm} (hl:a.2.2.1.length≤1000) (p:Int):Sz (mkQ (nmN (nzF l) a p) Q8) 100:=by
 have h1:=quB (nz8 l) hl
 have h2:=qjn a.2.2.2.toNat
 have k : -8≤min (max p (-8)) 8∧min (max p (-8)) 8≤8:=by omega
 have k:=Qe (d:=fv a.2.2.2.toNat) (Int.le_refl _) k.1 k.2
 refine quz ?_
 unfold nmN
 generalize fv a.2.2.2.toNat*min (max p (-8)) 8=u at *
 omega
theorem qlP {f:Int→Int→Int} {a b:Fm} (h:a.2.2.1.length+b.2.2.1.length≤1000):(Zt f a b).1=true∨okW (Zt f a b)=true:=by
 unfold Zt
 cases okF a&&okF b with
 | false=>exact .inl rfl
 | true=>exact qjy (Nat.le_trans (qqU (jnD f) (a.2.2.1.length+b.2.2.1.length) a.2.2.1 b.2.2.1 0) h)
theorem qzp {a:Fm} {l:List Tm} (h:l.length≤1000):(qdB a l).1=true∨okW (qdB a l)=true:=qjy h
theorem qzq (a:Fm) (l:List Tm):(qdB a l).2.2.1.length≤l.length:=qnt _
theorem quX {a:Fm} {e:Int} (h:a.2.2.1.length≤1000):(qcP a e).1=true∨okW (qcP a e)=true:=by
 unfold qcP
 cases hc:okF a&&fI e with
 | false=>exact .inl rfl
 | true =>
  rw [Bool.and_eq_true] at hc
  rw [cond_true,(Qm hc.1).1]
  exact qjy h
theorem quY {nz:Int→Int} {a:Fm} {X e:Int} (ha:okF a=true) (wa:FmW a) (hX:qdt nz a X 1):qdt nz (qcP a e) X 1:=by
 unfold qcP
 rw [ha,Bool.true_and]
 cases fe:fI e with
 | false=>exact .inl rfl
 | true=>exact qqP ha wa fe hX
theorem qzr (s:Spn) (id:Int):(Qf s id).2.2.1.length≤1:=by
 unfold Qf quM
 cases (qo s).1 with
 | true=>exact Nat.zero_le _
 | false =>
  cases fI (qo s).2.1 with
  | false=>exact Nat.zero_le _
  | true =>
   cases fI (qo s).2.2 with
   | false=>exact Nat.zero_le _
   | true =>
    cases decide (id<0) with
    | true=>exact Nat.le_trans (qnt _) (Nat.zero_le _)
    | false=>exact qnt _
def qDS (a b:Fm) (noises:List Int) (p most:Int):Option Bool :=
 ((bif (decide ((8<(((List.length a.2.2.1):Nat):Int)))) then
 some (noises,(p,(most,(true,(true,(a.1,(a.2.1,(a.2.2.1,(a.2.2.2,(b.1,(b.2.1,(b.2.2.1,(b.2.2.2,())))))))))))))
 else
  (bif (decide ((8<(((List.length b.2.2.1):Nat):Int)))) then
  some (noises,(p,(most,(true,(true,(a.1,(a.2.1,(a.2.2.1,(a.2.2.2,(b.1,(b.2.1,(b.2.2.1,(b.2.2.2,())))))))))))))
 else
  (bif a.1 then
  some (noises,(p,(most,(true,(true,(a.1,(a.2.1,(a.2.2.1,(a.2.2.2,(b.1,(b.2.1,(b.2.2.1,(b.2.2.2,())))))))))))))
 else
  (bif b.1 then
  some (noises,(p,(most,(true,(true,(a.1,(a.2.1,(a.2.2.1,(a.2.2.2,(b.1,(b.2.1,(b.2.2.1,(b.2.2.2,())))))))))))))
 else
  (bif (!(yU a)) then
  some (noises,(p,(most,(true,(true,(a.1,(a.2.1,(a.2.2.1,(a.2.2.2,(b.1,(b.2.1,(b.2.2.1,(b.2.2.2,())))))))))))))
 else
  some (noises,(p,(most,(true,((!(yU b)),(a.1,(a.2.1,(a.2.2.1,(a.2.2.2,(b.1,(b.2.1,(b.2.2.1,(b.2.2.2,()))))))))))))))))))).bind fun x7 =>
  (bif x7.2.2.2.2.1 then
  some x7.2.2.2.1
 else
  ((yY ((x7.2.2.2.2.2.1,(x7.2.2.2.2.2.2.1,(x7.2.2.2.2.2.2.2.1,x7.2.2.2.2.2.2.2.2.1))),(x7.1,x7.2.1)))).bind fun x8 =>
  ((yY ((x7.2.2.2.2.2.2.2.2.2.1,(x7.2.2.2.2.2.2.2.2.2.2.1,(x7.2.2.2.2.2.2.2.2.2.2.2.1,x7.2.2.2.2.2.2.2.2.2.2.2.2.1))),(x7.1,x7.2.1)))).bind fun x9 =>
  ((ZY ((x7.2.2.2.2.2.1,(x7.2.2.2.2.2.2.1,(x7.2.2.2.2.2.2.2.1,x7.2.2.2.2.2.2.2.2.1))),(x7.2.2.2.2.2.2.2.2.2.1,(x7.2.2.2.2.2.2.2.2.2.2.1,(x7.2.2.2.2.2.2.2.2.2.2.2.1,x7.2.2.2.2.2.2.2.2.2.2.2.2.1)))))).bind fun x10 =>
  ((ZX ((x7.2.2.2.2.2.1,(x7.2.2.2.2.2.2.1,(x7.2.2.2.2.2.2.2.1,x7.2.2.2.2.2.2.2.2.1))),x7.2.2.1))).bind fun x11 =>
  ((JX ((x7.2.2.2.2.2.1,(x7.2.2.2.2.2.2.1,(x7.2.2.2.2.2.2.2.1,x7.2.2.2.2.2.2.2.2.1))),x7.2.2.2.2.2.2.2.2.2.2.1))).bind fun x12 =>
  ((bif x7.2.2.2.1 then
  ((qT (x10,(x7.1,x8)))).bind fun x13 =>
  (bif x13 then
  ((qT (x10,(x7.1,x9)))).bind fun x14 =>
  (bif x14 then
  ((qT (x11,(x7.1,x8)))).bind fun x15 =>
  (bif x15 then
  ((qT (x12,(x7.1,x8)))).bind fun x16 =>
  (bif x16 then
  some ((decide (((((List.length x11.2.2.1):Nat):Int)≤(max x7.2.2.1 0)))),())
 else
  some (false,()))
 else
  some (false,()))
 else
  some (false,()))
 else
  some (false,()))
 else
  some (false,()))).bind fun x17 =>
  some x17.1)
theorem quZ {a:Fm} (oa:okF a=true) (la:a.2.2.1.length≤1000):okW a=true:=by
 obtain ⟨-,F⟩:=Qm oa
 unfold okW
 rw [Bool.and_eq_true,qcO]
 exact ⟨⟨F.mid,F.err,F.tms⟩,Nat.ble_eq_true_of_le la⟩
theorem qu0 (a b:Fm) (l:List Int) (p most:Int) (wa:FmW a) (wb:FmW b):qDS a b l p most=some true:=by
 unfold qDS
 by_cases h1:8<(a.2.2.1.length:Int)
 · exact obB (yh (decide_eq_true h1)) rfl
 by_cases h2:8<(b.2.2.1.length:Int)
 · exact obB ((QY (decide_eq_false h1)).trans (yh (decide_eq_true h2))) rfl
 cases ha:a.1 with
 | true=>exact obB ((QY (decide_eq_false h1)).trans ((QY (decide_eq_false h2)).trans (yh rfl))) rfl
 | false =>
 cases hb:b.1 with
 | true=>exact obB ((QY (decide_eq_false h1)).trans ((QY (decide_eq_false h2)).trans ((QY rfl).trans (yh rfl)))) rfl
 | false =>
 cases hma:yU a with
 | false=>exact obB ((QY (decide_eq_false h1)).trans ((QY (decide_eq_false h2)).trans ((QY rfl).trans ((QY rfl).trans (yh rfl))))) rfl
 | true =>
 refine obB ((QY (decide_eq_false h1)).trans ((QY (decide_eq_false h2)).trans ((QY rfl).trans ((QY rfl).trans (QY rfl))))) ?_
 cases hmb:yU b with
 | false=>exact yh rfl
 | true =>
 refine (QY rfl).trans ?_
 have oa:okF a=true:=by unfold okF;rw [ha,hma];rfl
 have ob:okF b=true:=by unfold okF;rw [hb,hmb];rfl
 have la:a.2.2.1.length≤8:=by omega
 have lb:b.2.2.1.length≤8:=by omega
 have ea:(false,(a.2.1,(a.2.2.1,a.2.2.2)))=a:=by rw [← ha]
 have eb:(false,(b.2.1,(b.2.2.1,b.2.2.2)))=b:=by rw [← hb]
 have nx:yY (a,(l,p))=some (mkQ (nmN (nzF l) a p) Q8):=yh (quZ oa (show a.2.2.1.length≤1000 by omega))
 have ny:yY (b,(l,p))=some (mkQ (nmN (nzF l) b p) Q8):=yh (quZ ob (show b.2.2.1.length≤1000 by omega))
 have hX:=quW l oa p
 have hY:=quW l ob p
 have sX:=qBs l (a:=a) (by omega) p
 have sY:=qBs l (a:=b) (by omega) p
 generalize nmN (nzF l) a p=X at *
 generalize nmN (nzF l) b p=Y at *
 have q1:∀ R:Int,mkQ R Q8=mkQ R (Q8*1):=fun R=>by rw [Nat.mul_one]
 rw [q1] at nx ny sX sY
 have fJ:ZY (a,b)=some (Zt joC a b):=yh (Nat.ble_eq_true_of_le (by show a.2.2.1.length+b.2.2.1.length≤_;omega))
 obtain ⟨k1,k2,-⟩:=qpo (a,most) oa (by show a.2.2.1.length≤12;omega)
 have fC:ZX (a,most)=some (qdB a (Z5 (a,most))):=yh (show (okF a&&Nat.ble a.2.2.1.length 12)=true by rw [oa,Nat.ble_eq_true_of_le (by omega)];rfl)
 have fM:JX (a,b.2.1)=some (qcP a b.2.1):=yh (Nat.ble_eq_true_of_le (by show a.2.2.1.length≤_;omega))
 have lk:(Z5 (a,most)).length≤1000:=by have k2:((Z5 (a,most)).length:Int)=min (max most 0) a.2.2.1.length:=k2;omega
 obtain ⟨jX,jY⟩:=qnr (nz8 l) quV oa ob wa wb hX hY
 have hj1:=qe6 (c:=Zt joC a b) (l:=l) (R:=X) (k:=1) (by omega) (qlP (by omega)) (qjz sX (by omega)) jX
 have hj2:=qe6 (c:=Zt joC a b) (l:=l) (R:=Y) (k:=1) (by omega) (qlP (by omega)) (qjz sY (by omega)) jY
 have hc:=qe6 (c:=qdB a (Z5 (a,most))) (l:=l) (R:=X) (k:=1) (by omega) (qzp lk) (qjz sX (by omega)) (qqQ (nz8 l) oa wa k1 hX)
 have hm:=qe6 (c:=qcP a b.2.1) (l:=l) (R:=X) (k:=1) (by omega) (quX (by omega)) (qjz sX (by omega)) (quY oa wa hX)
 have hn:decide ((((qdB a (Z5 (a,most))).2.2.1.length:Nat):Int)≤max most 0)=true:=decide_eq_true (by
  have:=qzq a (Z5 (a,most))
  have k2:((Z5 (a,most)).length:Int)=min (max most 0) a.2.2.1.length:=k2
  omega)
 simp only [ea,eb]
 refine obB nx (obB ny (obB fJ (obB fC (obB fM (obB (x:=(true,())) ?_ rfl)))))
 refine (yh rfl).trans (obB hj1 ((yh rfl).trans (obB hj2 ((yh rfl).trans (obB hc ((yh rfl).trans (obB hm ((yh rfl).trans ?_))))))))
 rw [hn]
def qu1 (_:Fm×(Fm×(List Int×(Int×(Int×Spn))))):Option Bool:=some true
theorem qzs (x:Fm×(Fm×(List Int×(Int×(Int×Spn))))) (y:Bool) (hg:(dc qu (dc qu (dc (cQ 3 1) (dc (cI .i64) (dc (cI .i64) (d1 Yv)))))).good x) (h:qu1 x=some y):qzo x.1 x.2.1 x.2.2.1 x.2.2.2.1 x.2.2.2.2.1 x.2.2.2.2.2=some y:=by
 obtain ⟨a,b,l,p,most,s⟩:=x
 have:=soi h;subst this
 show qzo a b l p most s=some true
 have ga:=hg.1
 have gb:=hg.2.1
 have gs:=hg.2.2.2.2.2
 have wa:FmW a:=⟨Qj.1 ga.2.1,Qj.1 ga.2.2.2,fun t ht=>Qj.1 (ga.2.2.1.1 t ht).2⟩
 have wb:FmW b:=⟨Qj.1 gb.2.1,Qj.1 gb.2.2.2,fun t ht=>Qj.1 (gb.2.2.1.1 t ht).2⟩
 have ws:SpW s:=⟨Qj.1 gs.2.1,Qj.1 gs.2.2⟩
 have ht:=qu0 a b l p most wa wb
 unfold qDS at ht
 unfold qzo qcT qa8
 refine obB (qeZ _) (obB (qeZ _) ?_)
 cases hf:(Qf s 3).1 with
 | true=>exact (QY rfl).trans ((QY rfl).trans ht)
 | false =>
  obtain ⟨n1,n2,c1,c2,c3⟩:=qzn (id:=3) ws hf
  rw [n1,n2]
  have fS:Ql (Qf s 3)=some (Z4 (Qf s 3)):=yh (Nat.ble_eq_true_of_le (by have:=qzr s 3;omega))
  have w:∀ c:Int,qcN (8*fv c.toNat) (8*((1:Nat):Int)) (Z4 (Qf s 3))→qaE (ZU c.toNat,Z4 (Qf s 3))=some true:=fun c h=>by
   have:=qDR (R:=8*fv c.toNat) (k:=1) (by omega) h
   have e:mkQ (8*fv c.toNat) (Q8*1)=ZU c.toNat:=by
    rw [JU,Nat.mul_one]
    unfold Q8
    rw [Int.mul_comm,Nat.mul_comm]
    exact yP (fv c.toNat) QD (k:=8) (by omega)
   rw [e] at this
   rw [← this]
   exact yh (by rw [JU];exact (qhF c).ok4 (by omega))
  refine (yh rfl).trans ((yh rfl).trans ((yh rfl).trans (obB fS ((QY (by rw [c1];rfl)).trans ((yh rfl).trans (obB fS (obB (w _ c2) ((QY rfl).trans (obB fS (obB (w _ c3) ((QY rfl).trans ht)))))))))))
end
end Su
