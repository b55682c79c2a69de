/-
  What functions of the program compute, in plain Lean, and that the evaluator finds it.
-/
import Derived.Test.YtfckjjffdfkelaaGreatSuSd
import Derived.Test.YtfckjjffdfkelaaGreatNC10
set_option linter.unusedVariables false
set_option linter.unusedSimpArgs false
set_option maxRecDepth 10000
namespace Su
open Go Fly
noncomputable section
def qjM(a:Int)(b:Int)(mode:Int) :=
 bif(decide ((((spM (bK a.toNat)):Nat):Int)=0))then
 some (b,(0:Int))
 else
  (bif(decide ((((spM (bK b.toNat)):Nat):Int)=0))then
  some (a,(0:Int))
 else
  (bif(decide ((spE (bK a.toNat))<(spE (bK b.toNat))))then
  (qcS (b,(((qE (bK b.toNat)):Nat):Int),(decide ((Int.fdiv b (2^63))=1)),(((spM (bK b.toNat)):Nat):Int),(spE (bK b.toNat))) (a,(((qE (bK a.toNat)):Nat):Int),(decide ((Int.fdiv a (2^63))=1)),(((spM (bK a.toNat)):Nat):Int),(spE (bK a.toNat))) mode).bind fun x0=>
  some (x0.1,x0.2)
 else
  (bif(decide ((spE (bK a.toNat))=(spE (bK b.toNat))))then
  (bif(decide ((((spM (bK a.toNat)):Nat):Int)<(((spM (bK b.toNat)):Nat):Int)))then
  (qcS (b,(((qE (bK b.toNat)):Nat):Int),(decide ((Int.fdiv b (2^63))=1)),(((spM (bK b.toNat)):Nat):Int),(spE (bK b.toNat))) (a,(((qE (bK a.toNat)):Nat):Int),(decide ((Int.fdiv a (2^63))=1)),(((spM (bK a.toNat)):Nat):Int),(spE (bK a.toNat))) mode).bind fun x1=>
  some (x1.1,x1.2)
 else
  (qcS (a,(((qE (bK a.toNat)):Nat):Int),(decide ((Int.fdiv a (2^63))=1)),(((spM (bK a.toNat)):Nat):Int),(spE (bK a.toNat))) (b,(((qE (bK b.toNat)):Nat):Int),(decide ((Int.fdiv b (2^63))=1)),(((spM (bK b.toNat)):Nat):Int),(spE (bK b.toNat))) mode).bind fun x2=>
  some (x2.1,x2.2))
 else
  (qcS (a,(((qE (bK a.toNat)):Nat):Int),(decide ((Int.fdiv a (2^63))=1)),(((spM (bK a.toNat)):Nat):Int),(spE (bK a.toNat))) (b,(((qE (bK b.toNat)):Nat):Int),(decide ((Int.fdiv b (2^63))=1)),(((spM (bK b.toNat)):Nat):Int),(spE (bK b.toNat))) mode).bind fun x3=>
  some (x3.1,x3.2))))
def qe3(a:Int)(b:Int)(mode:Int) :=
 bif(decide ((((spM (bK a.toNat)):Nat):Int)=0))then
 (bif(decide ((((spM (bK b.toNat)):Nat):Int)=0))then
 some ((((((sgN (decide (mode=2)))+0)+0):Nat):Int),(0:Int))
 else
  (qjM a b mode))
 else
  (qjM a b mode)
def qe4(a:Int)(b:Int)(mode:Int) :=
 bif(decide ((((qE (bK a.toNat)):Nat):Int)=3))then
 some (a,(0:Int))
 else
  (bif(decide ((((qE (bK b.toNat)):Nat):Int)=3))then
  some (b,(0:Int))
 else
  (bif(decide ((((spM (bK a.toNat)):Nat):Int)=0))then
  (bif(decide ((((spM (bK b.toNat)):Nat):Int)=0))then
  (bif(decide ((decide ((Int.fdiv a (2^63))=1))=(decide ((Int.fdiv b (2^63))=1))))then
  some (a,(0:Int))
 else
  (qe3 a b mode))
 else
  (qe3 a b mode))
 else
  (qe3 a b mode)))
def qrS  (a:Int)(b:Int)(mode:Int):Option (Int×Int) :=
 (bif(decide ((((qE (bK a.toNat)):Nat):Int)=4))then
 some ((9221120237041090560:Int),(0:Int))
 else
  (bif(decide ((((qE (bK b.toNat)):Nat):Int)=4))then
  some ((9221120237041090560:Int),(0:Int))
 else
  (bif(decide ((((qE (bK a.toNat)):Nat):Int)=3))then
  (bif(decide ((((qE (bK b.toNat)):Nat):Int)=3))then
  (bif(!(decide ((decide ((Int.fdiv a (2^63))=1))=(decide ((Int.fdiv b (2^63))=1)))))then
  some ((9221120237041090560:Int),(16:Int))
 else
  (qe4 a b mode))
 else
  (qe4 a b mode))
 else
  (qe4 a b mode))))
def qe5(a:Int)(b:Int)(mode:Int) :=
 bif(decide ((((qE (bK a.toNat)):Nat):Int)=3))then
 some (((((sgN (!(decide ((decide ((Int.fdiv a (2^63))=1))=(decide ((Int.fdiv b (2^63))=1))))))+9218868437227405312):Nat):Int),(0:Int))
 else
  (bif(decide ((((qE (bK b.toNat)):Nat):Int)=3))then
  some (((((sgN (!(decide ((decide ((Int.fdiv a (2^63))=1))=(decide ((Int.fdiv b (2^63))=1))))))+9218868437227405312):Nat):Int),(0:Int))
 else
  some ((((rnd (!(decide ((decide ((Int.fdiv a (2^63))=1))=(decide ((Int.fdiv b (2^63))=1))))) mode (qe ((hiW ((Int.toNat (((spM (bK a.toNat)):Nat):Int))*(Int.toNat (((spM (bK b.toNat)):Nat):Int)))),(loW ((Int.toNat (((spM (bK a.toNat)):Nat):Int))*(Int.toNat (((spM (bK b.toNat)):Nat):Int)))))) (IntKind.wrap .i64 ((spE (bK a.toNat))+(spE (bK b.toNat)))) false):Nat):Int),(flg (!(decide ((decide ((Int.fdiv a (2^63))=1))=(decide ((Int.fdiv b (2^63))=1))))) mode (qe ((hiW ((Int.toNat (((spM (bK a.toNat)):Nat):Int))*(Int.toNat (((spM (bK b.toNat)):Nat):Int)))),(loW ((Int.toNat (((spM (bK a.toNat)):Nat):Int))*(Int.toNat (((spM (bK b.toNat)):Nat):Int)))))) (IntKind.wrap .i64 ((spE (bK a.toNat))+(spE (bK b.toNat)))) false)))
def qu6  (a:Int)(b:Int)(mode:Int):Option (Int×Int) :=
 (bif(decide ((((qE (bK a.toNat)):Nat):Int)=4))then
 some ((9221120237041090560:Int),(0:Int))
 else
  (bif(decide ((((qE (bK b.toNat)):Nat):Int)=4))then
  some ((9221120237041090560:Int),(0:Int))
 else
  (bif(decide ((((qE (bK a.toNat)):Nat):Int)=3))then
  (bif(decide ((((qE (bK a.toNat)):Nat):Int)=0))then
  some ((9221120237041090560:Int),(16:Int))
 else
  (bif(decide ((((qE (bK b.toNat)):Nat):Int)=0))then
  some ((9221120237041090560:Int),(16:Int))
 else
  (qe5 a b mode)))
 else
  (bif(decide ((((qE (bK b.toNat)):Nat):Int)=3))then
  (bif(decide ((((qE (bK a.toNat)):Nat):Int)=0))then
  some ((9221120237041090560:Int),(16:Int))
 else
  (bif(decide ((((qE (bK b.toNat)):Nat):Int)=0))then
  some ((9221120237041090560:Int),(16:Int))
 else
  (qe5 a b mode)))
 else
  (qe5 a b mode)))))
def Qs(k:Nat):Bool:=Nat.beq k 9218868437227405312
def qex(a b:Nat):Bool:=decide (kE (bK a)<kE (bK b))||(decide (kE (bK a)=kE (bK b))&&decide (kM (bK a)<kM (bK b)))
def qoe(x y:Nat)(mode:Int):Nat:=qmi (bS x) (bS y) mode (kM (bK x)) (kM (bK y)) (kE (bK x)-kE (bK y)) ((kE (bK y):Int)-1074)
def YF(a b:Nat)(mode:Int):Nat :=
 bif qP (bK a)then 9221120237041090560 else bif qP (bK b)then 9221120237041090560 else
 bif Qs (bK a)&&(Qs (bK b)&&!decide (bS a=bS b))then 9221120237041090560 else
 bif Qs (bK a)then a else bif Qs (bK b)then b else
 bif Nat.beq (bK a) 0&&(Nat.beq (bK b) 0&&decide (bS a=bS b))then a else
 bif Nat.beq (bK a) 0&&Nat.beq (bK b) 0 then sgN (decide (mode=2))else
 bif Nat.beq (bK a) 0 then b else bif Nat.beq (bK b) 0 then a else
 bif qex a b then qoe b a mode else qoe a b mode
theorem Zx{k:Nat}(hk:k≤9218868437227405311):kM k<9007199254740992∧(k≠0→1≤kM k)∧kE k≤2045∧(0<kE k→4503599627370496≤kM k):=by
 unfold kM kE;refine⟨?_,?_,?_,?_⟩
 · split <;> omega
 · intro h;split <;> omega
 · omega
 · intro h;rw[zZ (by omega)];omega
theorem qe6{k:Nat}(hk:k≤9218868437227405311):spM k=kM k:=by unfold spM;rw[qZ.2 hk,zd]
theorem YN{k:Nat}(hk:k≤9218868437227405311)(h0:k≠0):spE k=(kE k:Int)-1074:=by unfold spE;rw[qZ.2 hk,qbW h0];rfl
theorem qcT{k:Nat}:kM k=0↔k=0:=by
 unfold kM;constructor
 · intro h;split at h <;> omega
 · intro h;subst h;rfl
theorem qe7{x y:Nat}{fx cx fy cy mode:Int}(hx:bK x≤9218868437227405311)(hx0:bK x≠0)(hy:bK y≤9218868437227405311)(hy0:bK y≠0)(h:kE (bK y)<kE (bK x)∨kE (bK y)=kE (bK x)∧kM (bK y)≤kM (bK x)) :
 ∃fl,qcS (fx,cx,bS x,(kM (bK x):Int),spE (bK x)) (fy,cy,bS y,(kM (bK y):Int),spE (bK y)) mode=some ((qoe x y mode:Int),fl):=by
 rw[YN hx hx0,YN hy hy0];obtain⟨a1,a2,a3,a4⟩:=Zx hx;obtain⟨b1,b2,b3,b4⟩:=Zx hy;have a2:=a2 hx0;have e:(kE (bK x):Int)-1074=(kE (bK y):Int)-1074+((kE (bK x)-kE (bK y):Nat):Int):=by omega
 rw[e];unfold qoe;refine qrR a2 a1 b1 (by omega) (by omega) (fun hd=>a4 (by omega)) ?_
 rcases h with h | ⟨h1,h2⟩
 · have hp:2^1≤2^(kE (bK x)-kE (bK y)):=Kf (by omega) (by omega)
   have h4:=a4 (by omega)
   have:=Vd hp h4
   omega
 · rw[h1,Vi,Vp,KU];exact h2
theorem qmj{a b:Nat}(ha:a<18446744073709551616)(hb:b<18446744073709551616)(mode:Int):∃fl,qrS (a:Int) (b:Int) mode=some ((YF a b mode:Int),fl):=by
 have q2:∀k:Nat,decide (((kM k:Nat):Int)=0)=Nat.beq k 0:=fun k=>by
  rw[show(0:Int)=((0:Nat):Int) from rfl,qdu,beq_dec];by_cases h:k=0
  · rw[zf h,zf (qcT.2 h)]
  · rw[zk h,zk (fun e=>h (qcT.1 e))]
 have inf_e:∀k:Nat,Nat.beq k 9218868437227405312=Qs k:=fun k=>rfl
 unfold qrS qe4 qe3 qjM YF;simp only[zl,qe0,qjz,qn4 a ha,qn4 b hb,inf_e];cases h1:qP (bK a)with
 | true=>exact⟨_,rfl⟩
 | false=>
 cases h2:qP (bK b)with
 | true=>exact⟨_,rfl⟩
 | false=>
 have h1':=y9.1 h1;have h2':=y9.1 h2;cases h3:Qs (bK a)with
 | true=>
  cases h4:Qs (bK b)with
  | true=>
   cases decide (bS a=bS b)with
   | true=>exact⟨_,rfl⟩
   | false=>exact⟨_,rfl⟩
  | false=>exact⟨_,rfl⟩
 | false=>
 cases h4:Qs (bK b)with
 | true=>exact⟨_,rfl⟩
 | false=>
 have i3:bK a≠9218868437227405312:=fun e=>by unfold Qs at h3;rw[e]at h3;simp at h3
 have i4:bK b≠9218868437227405312:=fun e=>by unfold Qs at h4;rw[e]at h4;simp at h4
 have fa:bK a≤9218868437227405311:=by omega
 have fb:bK b≤9218868437227405311:=by omega
 simp only[zh,KW];simp only[qe6 fa,qe6 fb,q2];cases h5:Nat.beq (bK a) 0 with
 | true=>
  cases h6:Nat.beq (bK b) 0 with
  | true=>
   cases decide (bS a=bS b)with
   | true=>exact⟨_,rfl⟩
   | false=>exact⟨0,by simp only[zd,zh,zG,zY,Kr]⟩
  | false=>exact⟨_,rfl⟩
 | false=>
 cases h6:Nat.beq (bK b) 0 with
 | true=>exact⟨_,rfl⟩
 | false=>
 have za:bK a≠0:=fun e=>by rw[e]at h5;simp at h5
 have zb:bK b≠0:=fun e=>by rw[e]at h6;simp at h6
 simp only[zh,KW];have w1:decide (spE (bK a)<spE (bK b))=decide (kE (bK a)<kE (bK b)):=by
  rw[YN fa za,YN fb zb];refine Xt.2 ?_;omega
 have w2:decide (spE (bK a)=spE (bK b))=decide (kE (bK a)=kE (bK b)):=by
  rw[YN fa za,YN fb zb];refine Xt.2 ?_;omega
 have w3:decide (((kM (bK a):Nat):Int)<((kM (bK b):Nat):Int))=decide (kM (bK a)<kM (bK b)):=Xt.2 (by omega)
 rw[w1,w2,w3];unfold qex;by_cases g1:kE (bK a)<kE (bK b)
 · rw[zf g1,zd,Xb,zd]
   obtain⟨fl,hfl⟩:=qe7 (fx:=(b:Int)) (cx:=((qE (bK b):Nat):Int)) (fy:=(a:Int)) (cy:=((qE (bK a):Nat):Int)) (mode:=mode) fb zb fa za (.inl g1)
   rw[hfl];exact⟨fl,rfl⟩
 · rw[zk g1,zh,VL]
   by_cases g2:kE (bK a)=kE (bK b)
   · rw[zf g2,zd,zG]
     by_cases g3:kM (bK a)<kM (bK b)
     · rw[zf g3,zd,zd]
       obtain⟨fl,hfl⟩:=qe7 (fx:=(b:Int)) (cx:=((qE (bK b):Nat):Int)) (fy:=(a:Int)) (cy:=((qE (bK a):Nat):Int)) (mode:=mode) fb zb fa za (.inr ⟨g2,by omega⟩)
       rw[hfl];exact⟨fl,rfl⟩
     · rw[zk g3,zh,zh]
       obtain⟨fl,hfl⟩:=qe7 (fx:=(a:Int)) (cx:=((qE (bK a):Nat):Int)) (fy:=(b:Int)) (cy:=((qE (bK b):Nat):Int)) (mode:=mode) fa za fb zb (.inr ⟨g2.symm,by omega⟩)
       rw[hfl];exact⟨fl,rfl⟩
   · rw[zk g2,zh,KW,zh]
     obtain⟨fl,hfl⟩:=qe7 (fx:=(a:Int)) (cx:=((qE (bK a):Nat):Int)) (fy:=(b:Int)) (cy:=((qE (bK b):Nat):Int)) (mode:=mode) fa za fb zb (.inl (by omega))
     rw[hfl];exact⟨fl,rfl⟩
def qrT(a b:Nat)(mode:Int):Nat :=
 bif qP (bK a)then 9221120237041090560 else bif qP (bK b)then 9221120237041090560 else
 bif(Qs (bK a)||Qs (bK b))&&(Nat.beq (bK a) 0||Nat.beq (bK b) 0)then 9221120237041090560 else
 bif Qs (bK a)||Qs (bK b)then sgN (!decide (bS a=bS b))+9218868437227405312 else
 RN (!decide (bS a=bS b)) mode (kM (bK a)*kM (bK b)) (kE (bK a)+kE (bK b)+3852) false
theorem qzH{neg:Bool}{mode:Int}{j k:Nat}(hj:j≤9218868437227405311)(hk:k≤9218868437227405311) :
 rnd neg mode (qe (hiW (spM j*spM k),loW (spM j*spM k))) (IntKind.i64.wrap (spE j+spE k)) false=RN neg mode (kM j*kM k) (kE j+kE k+3852) false:=by
 rw[qe6 hj,qe6 hk,qp4];obtain⟨a1,a2,a3,a4⟩:=Zx hj;obtain⟨b1,b2,b3,b4⟩:=Zx hk;have hp:kM j*kM k≤9007199254740992*9007199254740992:=Vd (by omega) (by omega)
 rw[KA (by omega),qgc,KW];by_cases h0:j=0
 · have:kM j=0:=qcT.2 h0
   rw[this,Vo,qcD,qcD]
 · by_cases h1:k=0
   · have:kM k=0:=qcT.2 h1
     rw[this,VB,qcD,qcD]
   · rw[YN hj h0,YN hk h1,w64 (by omega) (by omega)]
     congr 1;omega
theorem qu7{a b:Nat}(ha:a<18446744073709551616)(hb:b<18446744073709551616)(mode:Int):∃fl,qu6 (a:Int) (b:Int) mode=some ((qrT a b mode:Int),fl):=by
 have inf_e:∀k:Nat,Nat.beq k 9218868437227405312=Qs k:=fun k=>rfl
 unfold qu6 qe5 qrT;simp only[zl,qe0,qjz,qge,qn4 a ha,qn4 b hb,inf_e];cases h1:qP (bK a)with
 | true=>exact⟨_,rfl⟩
 | false=>
 cases h2:qP (bK b)with
 | true=>exact⟨_,rfl⟩
 | false=>
 have h1':=y9.1 h1;have h2':=y9.1 h2;generalize hneg:(!decide (bS a=bS b))=neg
 cases h3:Qs (bK a)with
 | true=>
  cases h5:Nat.beq (bK a) 0 <;> cases h6:Nat.beq (bK b) 0 <;> (simp only[zd,zh,zG,Xb,Xk,Xc];exact⟨_,rfl⟩)
 | false=>
 cases h4:Qs (bK b)with
 | true=>
  cases h5:Nat.beq (bK a) 0 <;> cases h6:Nat.beq (bK b) 0 <;> (simp only[zd,zh,zG,Xb,Xk,Xc];exact⟨_,rfl⟩)
 | false=>
 have i3:bK a≠9218868437227405312:=fun e=>by unfold Qs at h3;rw[e]at h3;simp at h3
 have i4:bK b≠9218868437227405312:=fun e=>by unfold Qs at h4;rw[e]at h4;simp at h4
 have fa:bK a≤9218868437227405311:=by omega
 have fb:bK b≤9218868437227405311:=by omega
 simp only[zh,Xc,KW];rw[qzH fa fb];exact⟨_,rfl⟩
def addL:{f:Nat→Nat→Int→Nat // ∀a b m,f a b m=YF a b m}:=Classical.choice ⟨⟨_,fun _ _ _=>rfl⟩⟩
def Qt(a b:Nat)(m:Int):Nat:=addL.1 a b m
theorem Z5(a b:Nat)(m:Int):Qt a b m=YF a b m:=addL.2 a b m
def mulL:{f:Nat→Nat→Int→Nat // ∀a b m,f a b m=qrT a b m}:=Classical.choice ⟨⟨_,fun _ _ _=>rfl⟩⟩
def qrU(a b:Nat)(m:Int):Nat:=mulL.1 a b m
theorem qjN(a b:Nat)(m:Int):qrU a b m=qrT a b m:=mulL.2 a b m
end
end Su
