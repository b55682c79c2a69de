/-
  What functions of the program compute, in plain Lean, and that the evaluator finds it.
-/
import Derived.Test.YtfckjjffdfkelaaGreatSuSd
import Derived.Test.YtfckjjffdfkelaaGreatNC10
set_option maxRecDepth 10000
namespace Su
open Go Fly
set_option linter.unusedVariables false
noncomputable section
def qi6 (a:Int) (b:Int) (mode:Int) :=
 bif (decide (((((spM (bK (Int.toNat a))):Nat):Int)=0))) then
 some (b,(0:Int))
 else
  (bif (decide (((((spM (bK (Int.toNat b))):Nat):Int)=0))) then
  some (a,(0:Int))
 else
  (bif (decide (((spE (bK (Int.toNat a)))<(spE (bK (Int.toNat b)))))) then
  ((qcD (b,((((qD (bK (Int.toNat b))):Nat):Int),((decide (((Int.fdiv b (2^63))=1))),((((spM (bK (Int.toNat b))):Nat):Int),(spE (bK (Int.toNat b))))))) (a,((((qD (bK (Int.toNat a))):Nat):Int),((decide (((Int.fdiv a (2^63))=1))),((((spM (bK (Int.toNat a))):Nat):Int),(spE (bK (Int.toNat a))))))) mode)).bind fun x0 =>
  some (x0.1,x0.2)
 else
  (bif (decide (((spE (bK (Int.toNat a)))=(spE (bK (Int.toNat b)))))) then
  (bif (decide (((((spM (bK (Int.toNat a))):Nat):Int)<(((spM (bK (Int.toNat b))):Nat):Int)))) then
  ((qcD (b,((((qD (bK (Int.toNat b))):Nat):Int),((decide (((Int.fdiv b (2^63))=1))),((((spM (bK (Int.toNat b))):Nat):Int),(spE (bK (Int.toNat b))))))) (a,((((qD (bK (Int.toNat a))):Nat):Int),((decide (((Int.fdiv a (2^63))=1))),((((spM (bK (Int.toNat a))):Nat):Int),(spE (bK (Int.toNat a))))))) mode)).bind fun x1 =>
  some (x1.1,x1.2)
 else
  ((qcD (a,((((qD (bK (Int.toNat a))):Nat):Int),((decide (((Int.fdiv a (2^63))=1))),((((spM (bK (Int.toNat a))):Nat):Int),(spE (bK (Int.toNat a))))))) (b,((((qD (bK (Int.toNat b))):Nat):Int),((decide (((Int.fdiv b (2^63))=1))),((((spM (bK (Int.toNat b))):Nat):Int),(spE (bK (Int.toNat b))))))) mode)).bind fun x2 =>
  some (x2.1,x2.2))
 else
  ((qcD (a,((((qD (bK (Int.toNat a))):Nat):Int),((decide (((Int.fdiv a (2^63))=1))),((((spM (bK (Int.toNat a))):Nat):Int),(spE (bK (Int.toNat a))))))) (b,((((qD (bK (Int.toNat b))):Nat):Int),((decide (((Int.fdiv b (2^63))=1))),((((spM (bK (Int.toNat b))):Nat):Int),(spE (bK (Int.toNat b))))))) mode)).bind fun x3 =>
  some (x3.1,x3.2))))
def qeR (a:Int) (b:Int) (mode:Int) :=
 bif (decide (((((spM (bK (Int.toNat a))):Nat):Int)=0))) then
 (bif (decide (((((spM (bK (Int.toNat b))):Nat):Int)=0))) then
 some ((((((sgN (decide ((mode=2))))+0)+0):Nat):Int),(0:Int))
 else
  (qi6 a b mode))
 else
  (qi6 a b mode)
def qeS (a:Int) (b:Int) (mode:Int) :=
 bif (decide (((((qD (bK (Int.toNat a))):Nat):Int)=3))) then
 some (a,(0:Int))
 else
  (bif (decide (((((qD (bK (Int.toNat b))):Nat):Int)=3))) then
  some (b,(0:Int))
 else
  (bif (decide (((((spM (bK (Int.toNat a))):Nat):Int)=0))) then
  (bif (decide (((((spM (bK (Int.toNat b))):Nat):Int)=0))) then
  (bif (decide (((decide (((Int.fdiv a (2^63))=1)))=(decide (((Int.fdiv b (2^63))=1)))))) then
  some (a,(0:Int))
 else
  (qeR a b mode))
 else
  (qeR a b mode))
 else
  (qeR a b mode)))
def qqB  (a:Int) (b:Int) (mode:Int):Option (Int×Int) :=
 (bif (decide (((((qD (bK (Int.toNat a))):Nat):Int)=4))) then
 some ((9221120237041090560:Int),(0:Int))
 else
  (bif (decide (((((qD (bK (Int.toNat b))):Nat):Int)=4))) then
  some ((9221120237041090560:Int),(0:Int))
 else
  (bif (decide (((((qD (bK (Int.toNat a))):Nat):Int)=3))) then
  (bif (decide (((((qD (bK (Int.toNat b))):Nat):Int)=3))) then
  (bif (!(decide (((decide (((Int.fdiv a (2^63))=1)))=(decide (((Int.fdiv b (2^63))=1))))))) then
  some ((9221120237041090560:Int),(16:Int))
 else
  (qeS a b mode))
 else
  (qeS a b mode))
 else
  (qeS a b mode))))
def qeT (a:Int) (b:Int) (mode:Int) :=
 bif (decide (((((qD (bK (Int.toNat a))):Nat):Int)=3))) then
 some (((((sgN (!(decide (((decide (((Int.fdiv a (2^63))=1)))=(decide (((Int.fdiv b (2^63))=1))))))))+9218868437227405312):Nat):Int),(0:Int))
 else
  (bif (decide (((((qD (bK (Int.toNat b))):Nat):Int)=3))) then
  some (((((sgN (!(decide (((decide (((Int.fdiv a (2^63))=1)))=(decide (((Int.fdiv b (2^63))=1))))))))+9218868437227405312):Nat):Int),(0:Int))
 else
  some ((((rnd (!(decide (((decide (((Int.fdiv a (2^63))=1)))=(decide (((Int.fdiv b (2^63))=1))))))) mode (qe ((hiW ((Int.toNat (((spM (bK (Int.toNat a))):Nat):Int))*(Int.toNat (((spM (bK (Int.toNat b))):Nat):Int)))),(loW ((Int.toNat (((spM (bK (Int.toNat a))):Nat):Int))*(Int.toNat (((spM (bK (Int.toNat b))):Nat):Int)))))) (IntKind.wrap .i64 ((spE (bK (Int.toNat a)))+(spE (bK (Int.toNat b))))) false):Nat):Int),(flg (!(decide (((decide (((Int.fdiv a (2^63))=1)))=(decide (((Int.fdiv b (2^63))=1))))))) mode (qe ((hiW ((Int.toNat (((spM (bK (Int.toNat a))):Nat):Int))*(Int.toNat (((spM (bK (Int.toNat b))):Nat):Int)))),(loW ((Int.toNat (((spM (bK (Int.toNat a))):Nat):Int))*(Int.toNat (((spM (bK (Int.toNat b))):Nat):Int)))))) (IntKind.wrap .i64 ((spE (bK (Int.toNat a)))+(spE (bK (Int.toNat b))))) false)))
def qtO  (a:Int) (b:Int) (mode:Int):Option (Int×Int) :=
 (bif (decide (((((qD (bK (Int.toNat a))):Nat):Int)=4))) then
 some ((9221120237041090560:Int),(0:Int))
 else
  (bif (decide (((((qD (bK (Int.toNat b))):Nat):Int)=4))) then
  some ((9221120237041090560:Int),(0:Int))
 else
  (bif (decide (((((qD (bK (Int.toNat a))):Nat):Int)=3))) then
  (bif (decide (((((qD (bK (Int.toNat a))):Nat):Int)=0))) then
  some ((9221120237041090560:Int),(16:Int))
 else
  (bif (decide (((((qD (bK (Int.toNat b))):Nat):Int)=0))) then
  some ((9221120237041090560:Int),(16:Int))
 else
  (qeT a b mode)))
 else
  (bif (decide (((((qD (bK (Int.toNat b))):Nat):Int)=3))) then
  (bif (decide (((((qD (bK (Int.toNat a))):Nat):Int)=0))) then
  some ((9221120237041090560:Int),(16:Int))
 else
  (bif (decide (((((qD (bK (Int.toNat b))):Nat):Int)=0))) then
  some ((9221120237041090560:Int),(16:Int))
 else
  (qeT a b mode)))
 else
  (qeT a b mode)))))
def QF (k:Nat):Bool:=Nat.beq k 9218868437227405312
def qei (a b:Nat):Bool:=decide (kE (bK a)<kE (bK b))||(decide (kE (bK a)=kE (bK b))&&decide (kM (bK a)<kM (bK b)))
def qm4 (x y:Nat) (mode:Int):Nat:=qlk (bS x) (bS y) mode (kM (bK x)) (kM (bK y)) (kE (bK x)-kE (bK y)) ((kE (bK y):Int)-1074)
def YL (a b:Nat) (mode:Int):Nat :=
 bif qO (bK a) then 9221120237041090560 else bif qO (bK b) then 9221120237041090560 else
 bif QF (bK a)&&(QF (bK b)&&!decide (bS a=bS b)) then 9221120237041090560 else
 bif QF (bK a) then a else bif QF (bK b) then b else
 bif Nat.beq (bK a) 0&&(Nat.beq (bK b) 0&&decide (bS a=bS b)) then a else
 bif Nat.beq (bK a) 0&&Nat.beq (bK b) 0 then sgN (decide (mode=2)) else
 bif Nat.beq (bK a) 0 then b else bif Nat.beq (bK b) 0 then a else
 bif qei a b then qm4 b a mode else qm4 a b mode
theorem Zn {k:Nat} (hk:k≤9218868437227405311):kM k<9007199254740992∧(k≠0→1≤kM k)∧kE k≤2045∧(0<kE k→4503599627370496≤kM k):=by
 unfold kM kE
 refine ⟨?_,?_,?_,?_⟩
 · split <;> omega
 · intro h;split <;> omega
 · omega
 · intro h;rw [if_neg (by omega)];omega
theorem qeU {k:Nat} (hk:k≤9218868437227405311):spM k=kM k:=by unfold spM;rw [jH.2 hk,cond_true]
theorem YU {k:Nat} (hk:k≤9218868437227405311) (h0:k≠0):spE k=(kE k:Int)-1074:=by unfold spE;rw [jH.2 hk,qbD h0];rfl
theorem qcE {k:Nat}:kM k=0↔k=0:=by
 unfold kM
 constructor
 · intro h;split at h <;> omega
 · intro h;subst h;rfl
theorem qeV {x y:Nat} {fx cx fy cy mode:Int} (hx:bK x≤9218868437227405311) (hx0:bK x≠0) (hy:bK y≤9218868437227405311) (hy0:bK y≠0) (h:kE (bK y)<kE (bK x)∨kE (bK y)=kE (bK x)∧kM (bK y)≤kM (bK x)) :
 ∃ fl,qcD (fx,(cx,(bS x,((kM (bK x):Int),spE (bK x))))) (fy,(cy,(bS y,((kM (bK y):Int),spE (bK y))))) mode=some ((qm4 x y mode:Int),fl):=by
 rw [YU hx hx0,YU hy hy0]
 obtain ⟨a1,a2,a3,a4⟩:=Zn hx
 obtain ⟨b1,b2,b3,b4⟩:=Zn hy
 have a2:=a2 hx0
 have e:(kE (bK x):Int)-1074=(kE (bK y):Int)-1074+((kE (bK x)-kE (bK y):Nat):Int):=by omega
 rw [e]
 unfold qm4
 refine qqA a2 a1 b1 (by omega) (by omega) (fun hd=>a4 (by omega)) ?_
 rcases h with h | ⟨h1,h2⟩
 · have hp:2^1≤2^(kE (bK x)-kE (bK y)):=Nat.pow_le_pow_right (by omega) (by omega)
   have h4:=a4 (by omega)
   have:=Nat.mul_le_mul hp h4
   omega
 · rw [h1,Nat.sub_self,Nat.pow_zero,Nat.one_mul];exact h2
theorem qll {a b:Nat} (ha:a<18446744073709551616) (hb:b<18446744073709551616) (mode:Int):∃ fl,qqB (a:Int) (b:Int) mode=some ((YL a b mode:Int),fl):=by
 have q2:∀ k:Nat,decide (((kM k:Nat):Int)=0)=Nat.beq k 0:=fun k=>by
  rw [show (0:Int)=((0:Nat):Int) from rfl,qbE,beq_dec]
  by_cases h:k=0
  · rw [decide_eq_true h,decide_eq_true (qcE.2 h)]
  · rw [decide_eq_false h,decide_eq_false (fun e=>h (qcE.1 e))]
 have inf_e:∀ k:Nat,Nat.beq k 9218868437227405312=QF k:=fun k=>rfl
 unfold qqB qeS qeR qi6 YL
 simp only [Int.toNat_natCast,qeO,qiS,qmS a ha,qmS b hb,inf_e]
 cases h1:qO (bK a) with
 | true=>exact ⟨_,rfl⟩
 | false =>
 cases h2:qO (bK b) with
 | true=>exact ⟨_,rfl⟩
 | false =>
 have h1':=YA.1 h1
 have h2':=YA.1 h2
 cases h3:QF (bK a) with
 | true =>
  cases h4:QF (bK b) with
  | true =>
   cases decide (bS a=bS b) with
   | true=>exact ⟨_,rfl⟩
   | false=>exact ⟨_,rfl⟩
  | false=>exact ⟨_,rfl⟩
 | false =>
 cases h4:QF (bK b) with
 | true=>exact ⟨_,rfl⟩
 | false =>
 have i3:bK a≠9218868437227405312:=fun e=>by unfold QF at h3;rw [e] at h3;simp at h3
 have i4:bK b≠9218868437227405312:=fun e=>by unfold QF at h4;rw [e] at h4;simp at h4
 have fa:bK a≤9218868437227405311:=by omega
 have fb:bK b≤9218868437227405311:=by omega
 simp only [cond_false,Bool.false_and]
 simp only [qeU fa,qeU fb,q2]
 cases h5:Nat.beq (bK a) 0 with
 | true =>
  cases h6:Nat.beq (bK b) 0 with
  | true =>
   cases decide (bS a=bS b) with
   | true=>exact ⟨_,rfl⟩
   | false=>exact ⟨0,by simp only [cond_true,cond_false,Bool.true_and,Bool.and_self,Nat.add_zero]⟩
  | false=>exact ⟨_,rfl⟩
 | false =>
 cases h6:Nat.beq (bK b) 0 with
 | true=>exact ⟨_,rfl⟩
 | false =>
 have za:bK a≠0:=fun e=>by rw [e] at h5;simp at h5
 have zb:bK b≠0:=fun e=>by rw [e] at h6;simp at h6
 simp only [cond_false,Bool.false_and]
 have w1:decide (spE (bK a)<spE (bK b))=decide (kE (bK a)<kE (bK b)):=by
  rw [YU fa za,YU fb zb]
  refine decide_eq_decide.2 ?_;omega
 have w2:decide (spE (bK a)=spE (bK b))=decide (kE (bK a)=kE (bK b)):=by
  rw [YU fa za,YU fb zb]
  refine decide_eq_decide.2 ?_;omega
 have w3:decide ((((kM (bK a):Nat):Int))<((kM (bK b):Nat):Int))=decide (kM (bK a)<kM (bK b)):=decide_eq_decide.2 (by omega)
 rw [w1,w2,w3]
 unfold qei
 by_cases g1:kE (bK a)<kE (bK b)
 · rw [decide_eq_true g1,cond_true,Bool.true_or,cond_true]
   obtain ⟨fl,hfl⟩:=qeV (fx:=(b:Int)) (cx:=((qD (bK b):Nat):Int)) (fy:=(a:Int)) (cy:=((qD (bK a):Nat):Int)) (mode:=mode) fb zb fa za (.inl g1)
   rw [hfl];exact ⟨fl,rfl⟩
 · rw [decide_eq_false g1,cond_false,Bool.false_or]
   by_cases g2:kE (bK a)=kE (bK b)
   · rw [decide_eq_true g2,cond_true,Bool.true_and]
     by_cases g3:kM (bK a)<kM (bK b)
     · rw [decide_eq_true g3,cond_true,cond_true]
       obtain ⟨fl,hfl⟩:=qeV (fx:=(b:Int)) (cx:=((qD (bK b):Nat):Int)) (fy:=(a:Int)) (cy:=((qD (bK a):Nat):Int)) (mode:=mode) fb zb fa za (.inr ⟨g2,by omega⟩)
       rw [hfl];exact ⟨fl,rfl⟩
     · rw [decide_eq_false g3,cond_false,cond_false]
       obtain ⟨fl,hfl⟩:=qeV (fx:=(a:Int)) (cx:=((qD (bK a):Nat):Int)) (fy:=(b:Int)) (cy:=((qD (bK b):Nat):Int)) (mode:=mode) fa za fb zb (.inr ⟨g2.symm,by omega⟩)
       rw [hfl];exact ⟨fl,rfl⟩
   · rw [decide_eq_false g2,cond_false,Bool.false_and,cond_false]
     obtain ⟨fl,hfl⟩:=qeV (fx:=(a:Int)) (cx:=((qD (bK a):Nat):Int)) (fy:=(b:Int)) (cy:=((qD (bK b):Nat):Int)) (mode:=mode) fa za fb zb (.inl (by omega))
     rw [hfl];exact ⟨fl,rfl⟩
def qqC (a b:Nat) (mode:Int):Nat :=
 bif qO (bK a) then 9221120237041090560 else bif qO (bK b) then 9221120237041090560 else
 bif (QF (bK a)||QF (bK b))&&(Nat.beq (bK a) 0||Nat.beq (bK b) 0) then 9221120237041090560 else
 bif QF (bK a)||QF (bK b) then sgN (!decide (bS a=bS b))+9218868437227405312 else
 RN (!decide (bS a=bS b)) mode (kM (bK a)*kM (bK b)) (kE (bK a)+kE (bK b)+3852) false
theorem qyr {neg:Bool} {mode:Int} {j k:Nat} (hj:j≤9218868437227405311) (hk:k≤9218868437227405311) :
 rnd neg mode (qe (hiW (spM j*spM k),loW (spM j*spM k))) (IntKind.i64.wrap (spE j+spE k)) false=RN neg mode (kM j*kM k) (kE j+kE k+3852) false:=by
 rw [qeU hj,qeU hk,qoN]
 obtain ⟨a1,a2,a3,a4⟩:=Zn hj
 obtain ⟨b1,b2,b3,b4⟩:=Zn hk
 have hp:kM j*kM k≤9007199254740992*9007199254740992:=Nat.mul_le_mul (by omega) (by omega)
 rw [Nat.mod_eq_of_lt (by omega),qfW,Bool.false_and]
 by_cases h0:j=0
 · have:kM j=0:=qcE.2 h0
   rw [this,Nat.zero_mul,qcp,qcp]
 · by_cases h1:k=0
   · have:kM k=0:=qcE.2 h1
     rw [this,Nat.mul_zero,qcp,qcp]
   · rw [YU hj h0,YU hk h1,w64 (by omega) (by omega)]
     congr 1;omega
theorem qtP {a b:Nat} (ha:a<18446744073709551616) (hb:b<18446744073709551616) (mode:Int):∃ fl,qtO (a:Int) (b:Int) mode=some ((qqC a b mode:Int),fl):=by
 have inf_e:∀ k:Nat,Nat.beq k 9218868437227405312=QF k:=fun k=>rfl
 unfold qtO qeT qqC
 simp only [Int.toNat_natCast,qeO,qiS,qfY,qmS a ha,qmS b hb,inf_e]
 cases h1:qO (bK a) with
 | true=>exact ⟨_,rfl⟩
 | false =>
 cases h2:qO (bK b) with
 | true=>exact ⟨_,rfl⟩
 | false =>
 have h1':=YA.1 h1
 have h2':=YA.1 h2
 generalize hneg:(!decide (bS a=bS b))=neg
 cases h3:QF (bK a) with
 | true =>
  cases h5:Nat.beq (bK a) 0 <;> cases h6:Nat.beq (bK b) 0 <;> (simp only [cond_true,cond_false,Bool.true_and,Bool.true_or,Bool.or_true,Bool.or_self];exact ⟨_,rfl⟩)
 | false =>
 cases h4:QF (bK b) with
 | true =>
  cases h5:Nat.beq (bK a) 0 <;> cases h6:Nat.beq (bK b) 0 <;> (simp only [cond_true,cond_false,Bool.true_and,Bool.true_or,Bool.or_true,Bool.or_self];exact ⟨_,rfl⟩)
 | false =>
 have i3:bK a≠9218868437227405312:=fun e=>by unfold QF at h3;rw [e] at h3;simp at h3
 have i4:bK b≠9218868437227405312:=fun e=>by unfold QF at h4;rw [e] at h4;simp at h4
 have fa:bK a≤9218868437227405311:=by omega
 have fb:bK b≤9218868437227405311:=by omega
 simp only [cond_false,Bool.or_self,Bool.false_and]
 rw [qyr fa fb]
 exact ⟨_,rfl⟩
def addL:{f:Nat→Nat→Int→Nat // ∀ a b m,f a b m=YL a b m}:=Classical.choice ⟨⟨_,fun _ _ _=>rfl⟩⟩
def jL (a b:Nat) (m:Int):Nat:=addL.1 a b m
theorem ZV (a b:Nat) (m:Int):jL a b m=YL a b m:=addL.2 a b m
def mulL:{f:Nat→Nat→Int→Nat // ∀ a b m,f a b m=qqC a b m}:=Classical.choice ⟨⟨_,fun _ _ _=>rfl⟩⟩
def qqD (a b:Nat) (m:Int):Nat:=mulL.1 a b m
theorem qi7 (a b:Nat) (m:Int):qqD a b m=qqC a b m:=mulL.2 a b m
end
end Su
