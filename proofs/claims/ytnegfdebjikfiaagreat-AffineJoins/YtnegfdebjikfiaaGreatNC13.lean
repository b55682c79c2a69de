/-
  What functions of the program compute, in plain Lean, and that the evaluator finds it.
-/
import Derived.Test.YtnegfdebjikfiaaGreatSuXl
import Derived.Test.YtnegfdebjikfiaaGreatNC12
set_option linter.unusedVariables false
set_option linter.unusedSimpArgs false
set_option maxRecDepth 10000
namespace Su
open Go Fly
noncomputable section
def qio(a:Int)(b:Int)(mode:Int) :=
 bif(decide ((((spM (bK a.toNat)):Nat):Int)=0))then
 some (b,(0:Int))
 else
  (bif(decide ((((spM (bK b.toNat)):Nat):Int)=0))then
  some (a,(0:Int))
 else
  (bif(decide ((spE (bK a.toNat))<(spE (bK b.toNat))))then
  (qdv (b,(((qA (bK b.toNat)):Nat):Int),(decide ((Int.fdiv b (2^63))=1)),(((spM (bK b.toNat)):Nat):Int),(spE (bK b.toNat))) (a,(((qA (bK a.toNat)):Nat):Int),(decide ((Int.fdiv a (2^63))=1)),(((spM (bK a.toNat)):Nat):Int),(spE (bK a.toNat))) mode).bind fun x0=>
  some (x0.1,x0.2)
 else
  (bif(decide ((spE (bK a.toNat))=(spE (bK b.toNat))))then
  (bif(decide ((((spM (bK a.toNat)):Nat):Int)<(((spM (bK b.toNat)):Nat):Int)))then
  (qdv (b,(((qA (bK b.toNat)):Nat):Int),(decide ((Int.fdiv b (2^63))=1)),(((spM (bK b.toNat)):Nat):Int),(spE (bK b.toNat))) (a,(((qA (bK a.toNat)):Nat):Int),(decide ((Int.fdiv a (2^63))=1)),(((spM (bK a.toNat)):Nat):Int),(spE (bK a.toNat))) mode).bind fun x1=>
  some (x1.1,x1.2)
 else
  (qdv (a,(((qA (bK a.toNat)):Nat):Int),(decide ((Int.fdiv a (2^63))=1)),(((spM (bK a.toNat)):Nat):Int),(spE (bK a.toNat))) (b,(((qA (bK b.toNat)):Nat):Int),(decide ((Int.fdiv b (2^63))=1)),(((spM (bK b.toNat)):Nat):Int),(spE (bK b.toNat))) mode).bind fun x2=>
  some (x2.1,x2.2))
 else
  (qdv (a,(((qA (bK a.toNat)):Nat):Int),(decide ((Int.fdiv a (2^63))=1)),(((spM (bK a.toNat)):Nat):Int),(spE (bK a.toNat))) (b,(((qA (bK b.toNat)):Nat):Int),(decide ((Int.fdiv b (2^63))=1)),(((spM (bK b.toNat)):Nat):Int),(spE (bK b.toNat))) mode).bind fun x3=>
  some (x3.1,x3.2))))
def qdY(a:Int)(b:Int)(mode:Int) :=
 bif(decide ((((spM (bK a.toNat)):Nat):Int)=0))then
 (bif(decide ((((spM (bK b.toNat)):Nat):Int)=0))then
 some ((((((sgN (decide (mode=2)))+0)+0):Nat):Int),(0:Int))
 else
  (qio a b mode))
 else
  (qio a b mode)
def qdZ(a:Int)(b:Int)(mode:Int) :=
 bif(decide ((((qA (bK a.toNat)):Nat):Int)=3))then
 some (a,(0:Int))
 else
  (bif(decide ((((qA (bK b.toNat)):Nat):Int)=3))then
  some (b,(0:Int))
 else
  (bif(decide ((((spM (bK a.toNat)):Nat):Int)=0))then
  (bif(decide ((((spM (bK b.toNat)):Nat):Int)=0))then
  (bif(decide ((decide ((Int.fdiv a (2^63))=1))=(decide ((Int.fdiv b (2^63))=1))))then
  some (a,(0:Int))
 else
  (qdY a b mode))
 else
  (qdY a b mode))
 else
  (qdY a b mode)))
def qr4  (a:Int)(b:Int)(mode:Int):Option (Int×Int) :=
 (bif(decide ((((qA (bK a.toNat)):Nat):Int)=4))then
 some ((9221120237041090560:Int),(0:Int))
 else
  (bif(decide ((((qA (bK b.toNat)):Nat):Int)=4))then
  some ((9221120237041090560:Int),(0:Int))
 else
  (bif(decide ((((qA (bK a.toNat)):Nat):Int)=3))then
  (bif(decide ((((qA (bK b.toNat)):Nat):Int)=3))then
  (bif(!(decide ((decide ((Int.fdiv a (2^63))=1))=(decide ((Int.fdiv b (2^63))=1)))))then
  some ((9221120237041090560:Int),(16:Int))
 else
  (qdZ a b mode))
 else
  (qdZ a b mode))
 else
  (qdZ a b mode))))
def qd0(a:Int)(b:Int)(mode:Int) :=
 bif(decide ((((qA (bK a.toNat)):Nat):Int)=3))then
 some (((((sgN (!(decide ((decide ((Int.fdiv a (2^63))=1))=(decide ((Int.fdiv b (2^63))=1))))))+9218868437227405312):Nat):Int),(0:Int))
 else
  (bif(decide ((((qA (bK b.toNat)):Nat):Int)=3))then
  some (((((sgN (!(decide ((decide ((Int.fdiv a (2^63))=1))=(decide ((Int.fdiv b (2^63))=1))))))+9218868437227405312):Nat):Int),(0:Int))
 else
  some ((((rnd (!(decide ((decide ((Int.fdiv a (2^63))=1))=(decide ((Int.fdiv b (2^63))=1))))) mode (qd ((hiW ((Int.toNat (((spM (bK a.toNat)):Nat):Int))*(Int.toNat (((spM (bK b.toNat)):Nat):Int)))),(loW ((Int.toNat (((spM (bK a.toNat)):Nat):Int))*(Int.toNat (((spM (bK b.toNat)):Nat):Int)))))) (IntKind.wrap .i64 ((spE (bK a.toNat))+(spE (bK b.toNat)))) false):Nat):Int),(flg (!(decide ((decide ((Int.fdiv a (2^63))=1))=(decide ((Int.fdiv b (2^63))=1))))) mode (qd ((hiW ((Int.toNat (((spM (bK a.toNat)):Nat):Int))*(Int.toNat (((spM (bK b.toNat)):Nat):Int)))),(loW ((Int.toNat (((spM (bK a.toNat)):Nat):Int))*(Int.toNat (((spM (bK b.toNat)):Nat):Int)))))) (IntKind.wrap .i64 ((spE (bK a.toNat))+(spE (bK b.toNat)))) false)))
def qxt  (a:Int)(b:Int)(mode:Int):Option (Int×Int) :=
 (bif(decide ((((qA (bK a.toNat)):Nat):Int)=4))then
 some ((9221120237041090560:Int),(0:Int))
 else
  (bif(decide ((((qA (bK b.toNat)):Nat):Int)=4))then
  some ((9221120237041090560:Int),(0:Int))
 else
  (bif(decide ((((qA (bK a.toNat)):Nat):Int)=3))then
  (bif(decide ((((qA (bK a.toNat)):Nat):Int)=0))then
  some ((9221120237041090560:Int),(16:Int))
 else
  (bif(decide ((((qA (bK b.toNat)):Nat):Int)=0))then
  some ((9221120237041090560:Int),(16:Int))
 else
  (qd0 a b mode)))
 else
  (bif(decide ((((qA (bK b.toNat)):Nat):Int)=3))then
  (bif(decide ((((qA (bK a.toNat)):Nat):Int)=0))then
  some ((9221120237041090560:Int),(16:Int))
 else
  (bif(decide ((((qA (bK b.toNat)):Nat):Int)=0))then
  some ((9221120237041090560:Int),(16:Int))
 else
  (qd0 a b mode)))
 else
  (qd0 a b mode)))))
def qQ(k:Nat):Bool:=Nat.beq k 9218868437227405312
def Zy(a b:Nat):Bool:=decide (kE (bK a)<kE (bK b))||(decide (kE (bK a)=kE (bK b))&&decide (kM (bK a)<kM (bK b)))
def qfQ(x y:Nat)(mode:Int):Nat:=qcP (bS x) (bS y) mode (kM (bK x)) (kM (bK y)) (kE (bK x)-kE (bK y)) ((kE (bK y):Int)-1074)
def yg(a b:Nat)(mode:Int):Nat :=
 bif qB (bK a)then 9221120237041090560 else bif qB (bK b)then 9221120237041090560 else
 bif qQ (bK a)&&(qQ (bK b)&&!decide (bS a=bS b))then 9221120237041090560 else
 bif qQ (bK a)then a else bif qQ (bK b)then b else
 bif Nat.beq (bK a) 0&&(Nat.beq (bK b) 0&&decide (bS a=bS b))then a else
 bif Nat.beq (bK a) 0&&Nat.beq (bK b) 0 then sgN (decide (mode=2))else
 bif Nat.beq (bK a) 0 then b else bif Nat.beq (bK b) 0 then a else
 bif Zy a b then qfQ b a mode else qfQ a b mode
theorem q9{k:Nat}(hk:k≤9218868437227405311):kM k<9007199254740992∧(k≠0→1≤kM k)∧kE k≤2045∧(0<kE k→4503599627370496≤kM k):=by
 unfold kM kE;refine⟨?_,?_,?_,?_⟩
 · split <;> omega
 · intro h;split <;> omega
 · omega
 · intro h;rw[zP (by omega)];omega
theorem jW{k:Nat}(hk:k≤9218868437227405311):spM k=kM k:=by unfold spM;rw[qT.2 hk,zf]
theorem jl{k:Nat}(hk:k≤9218868437227405311)(h0:k≠0):spE k=(kE k:Int)-1074:=by unfold spE;rw[qT.2 hk,Qy h0];rfl
theorem QS{k:Nat}:kM k=0↔k=0:=by
 unfold kM;constructor
 · intro h;split at h <;> omega
 · intro h;subst h;rfl
theorem qd1{x y:Nat}{fx cx fy cy mode:Int}(hx:bK x≤9218868437227405311)(hx0:bK x≠0)(hy:bK y≤9218868437227405311)(hy0:bK y≠0)(h:kE (bK y)<kE (bK x)∨kE (bK y)=kE (bK x)∧kM (bK y)≤kM (bK x)) :
 ∃fl,qdv (fx,cx,bS x,(kM (bK x):Int),spE (bK x)) (fy,cy,bS y,(kM (bK y):Int),spE (bK y)) mode=some ((qfQ x y mode:Int),fl):=by
 rw[jl hx hx0,jl hy hy0];obtain⟨a1,a2,a3,a4⟩:=q9 hx;obtain⟨b1,b2,b3,b4⟩:=q9 hy;have a2:=a2 hx0;have e:(kE (bK x):Int)-1074=(kE (bK y):Int)-1074+((kE (bK x)-kE (bK y):Nat):Int):=by omega
 rw[e];unfold qfQ;refine qpq a2 a1 b1 (by omega) (by omega) (fun hd=>a4 (by omega)) ?_
 rcases h with h | ⟨h1,h2⟩
 · have hp:2^1≤2^(kE (bK x)-kE (bK y)):=KK (by omega) (by omega)
   have h4:=a4 (by omega)
   have:=Va hp h4
   omega
 · rw[h1,Vv,KH,Vq];exact h2
theorem qj7{a b:Nat}(ha:a<18446744073709551616)(hb:b<18446744073709551616)(mode:Int):∃fl,qr4 (a:Int) (b:Int) mode=some ((yg a b mode:Int),fl):=by
 have q2:∀k:Nat,decide (((kM k:Nat):Int)=0)=Nat.beq k 0:=fun k=>by
  rw[show(0:Int)=((0:Nat):Int) from rfl,Jq,beq_dec];by_cases h:k=0
  · rw[zd h,zd (QS.2 h)]
  · rw[zh h,zh (fun e=>h (QS.1 e))]
 have inf_e:∀k:Nat,Nat.beq k 9218868437227405312=qQ k:=fun k=>rfl
 unfold qr4 qdZ qdY qio yg;simp only[zm,JB,qbE,qlY a ha,qlY b hb,inf_e];cases h1:qB (bK a)with
 | true=>exact⟨_,rfl⟩
 | false=>
 cases h2:qB (bK b)with
 | true=>exact⟨_,rfl⟩
 | false=>
 have h1':=qE.1 h1;have h2':=qE.1 h2;cases h3:qQ (bK a)with
 | true=>
  cases h4:qQ (bK b)with
  | true=>
   cases decide (bS a=bS b)with
   | true=>exact⟨_,rfl⟩
   | false=>exact⟨_,rfl⟩
  | false=>exact⟨_,rfl⟩
 | false=>
 cases h4:qQ (bK b)with
 | true=>exact⟨_,rfl⟩
 | false=>
 have i3:bK a≠9218868437227405312:=fun e=>by unfold qQ at h3;rw[e]at h3;simp at h3
 have i4:bK b≠9218868437227405312:=fun e=>by unfold qQ at h4;rw[e]at h4;simp at h4
 have fa:bK a≤9218868437227405311:=by omega
 have fb:bK b≤9218868437227405311:=by omega
 simp only[zi,Kh];simp only[jW fa,jW fb,q2];cases h5:Nat.beq (bK a) 0 with
 | true=>
  cases h6:Nat.beq (bK b) 0 with
  | true=>
   cases decide (bS a=bS b)with
   | true=>exact⟨_,rfl⟩
   | false=>exact⟨0,by simp only[zf,zi,zK,zW,Kr]⟩
  | false=>exact⟨_,rfl⟩
 | false=>
 cases h6:Nat.beq (bK b) 0 with
 | true=>exact⟨_,rfl⟩
 | false=>
 have za:bK a≠0:=fun e=>by rw[e]at h5;simp at h5
 have zb:bK b≠0:=fun e=>by rw[e]at h6;simp at h6
 simp only[zi,Kh];have w1:decide (spE (bK a)<spE (bK b))=decide (kE (bK a)<kE (bK b)):=by
  rw[jl fa za,jl fb zb];refine Wh.2 ?_;omega
 have w2:decide (spE (bK a)=spE (bK b))=decide (kE (bK a)=kE (bK b)):=by
  rw[jl fa za,jl fb zb];refine Wh.2 ?_;omega
 have w3:decide (((kM (bK a):Nat):Int)<((kM (bK b):Nat):Int))=decide (kM (bK a)<kM (bK b)):=Wh.2 (by omega)
 rw[w1,w2,w3];unfold Zy;by_cases g1:kE (bK a)<kE (bK b)
 · rw[zd g1,zf,Wd,zf]
   obtain⟨fl,hfl⟩:=qd1 (fx:=(b:Int)) (cx:=((qA (bK b):Nat):Int)) (fy:=(a:Int)) (cy:=((qA (bK a):Nat):Int)) (mode:=mode) fb zb fa za (.inl g1)
   rw[hfl];exact⟨fl,rfl⟩
 · rw[zh g1,zi,VE]
   by_cases g2:kE (bK a)=kE (bK b)
   · rw[zd g2,zf,zK]
     by_cases g3:kM (bK a)<kM (bK b)
     · rw[zd g3,zf,zf]
       obtain⟨fl,hfl⟩:=qd1 (fx:=(b:Int)) (cx:=((qA (bK b):Nat):Int)) (fy:=(a:Int)) (cy:=((qA (bK a):Nat):Int)) (mode:=mode) fb zb fa za (.inr ⟨g2,by omega⟩)
       rw[hfl];exact⟨fl,rfl⟩
     · rw[zh g3,zi,zi]
       obtain⟨fl,hfl⟩:=qd1 (fx:=(a:Int)) (cx:=((qA (bK a):Nat):Int)) (fy:=(b:Int)) (cy:=((qA (bK b):Nat):Int)) (mode:=mode) fa za fb zb (.inr ⟨g2.symm,by omega⟩)
       rw[hfl];exact⟨fl,rfl⟩
   · rw[zh g2,zi,Kh,zi]
     obtain⟨fl,hfl⟩:=qd1 (fx:=(a:Int)) (cx:=((qA (bK a):Nat):Int)) (fy:=(b:Int)) (cy:=((qA (bK b):Nat):Int)) (mode:=mode) fa za fb zb (.inl (by omega))
     rw[hfl];exact⟨fl,rfl⟩
def qj8(a b:Nat)(mode:Int):Nat :=
 bif qB (bK a)then 9221120237041090560 else bif qB (bK b)then 9221120237041090560 else
 bif(qQ (bK a)||qQ (bK b))&&(Nat.beq (bK a) 0||Nat.beq (bK b) 0)then 9221120237041090560 else
 bif qQ (bK a)||qQ (bK b)then sgN (!decide (bS a=bS b))+9218868437227405312 else
 RN (!decide (bS a=bS b)) mode (kM (bK a)*kM (bK b)) (kE (bK a)+kE (bK b)+3852) false
theorem qxu{neg:Bool}{mode:Int}{j k:Nat}(hj:j≤9218868437227405311)(hk:k≤9218868437227405311) :
 rnd neg mode (qd (hiW (spM j*spM k),loW (spM j*spM k))) (IntKind.i64.wrap (spE j+spE k)) false=RN neg mode (kM j*kM k) (kE j+kE k+3852) false:=by
 rw[jW hj,jW hk,qnC];obtain⟨a1,a2,a3,a4⟩:=q9 hj;obtain⟨b1,b2,b3,b4⟩:=q9 hk;have hp:kM j*kM k≤9007199254740992*9007199254740992:=Va (by omega) (by omega)
 rw[Kq (by omega),Zw,Kh];by_cases h0:j=0
 · have:kM j=0:=QS.2 h0
   rw[this,Vg,Qo,Qo]
 · by_cases h1:k=0
   · have:kM k=0:=QS.2 h1
     rw[this,VS,Qo,Qo]
   · rw[jl hj h0,jl hk h1,w64 (by omega) (by omega)]
     congr 1;omega
theorem qr5{a b:Nat}(ha:a<18446744073709551616)(hb:b<18446744073709551616)(mode:Int):∃fl,qxt (a:Int) (b:Int) mode=some ((qj8 a b mode:Int),fl):=by
 have inf_e:∀k:Nat,Nat.beq k 9218868437227405312=qQ k:=fun k=>rfl
 unfold qxt qd0 qj8;simp only[zm,JB,qbE,Ya,qlY a ha,qlY b hb,inf_e];cases h1:qB (bK a)with
 | true=>exact⟨_,rfl⟩
 | false=>
 cases h2:qB (bK b)with
 | true=>exact⟨_,rfl⟩
 | false=>
 have h1':=qE.1 h1;have h2':=qE.1 h2;generalize hneg:(!decide (bS a=bS b))=neg
 cases h3:qQ (bK a)with
 | true=>
  cases h5:Nat.beq (bK a) 0 <;> cases h6:Nat.beq (bK b) 0 <;> (simp only[zf,zi,zK,Wd,WJ,VK];exact⟨_,rfl⟩)
 | false=>
 cases h4:qQ (bK b)with
 | true=>
  cases h5:Nat.beq (bK a) 0 <;> cases h6:Nat.beq (bK b) 0 <;> (simp only[zf,zi,zK,Wd,WJ,VK];exact⟨_,rfl⟩)
 | false=>
 have i3:bK a≠9218868437227405312:=fun e=>by unfold qQ at h3;rw[e]at h3;simp at h3
 have i4:bK b≠9218868437227405312:=fun e=>by unfold qQ at h4;rw[e]at h4;simp at h4
 have fa:bK a≤9218868437227405311:=by omega
 have fb:bK b≤9218868437227405311:=by omega
 simp only[zi,VK,Kh];rw[qxu fa fb];exact⟨_,rfl⟩
def addL:{f:Nat→Nat→Int→Nat // ∀a b m,f a b m=yg a b m}:=Classical.choice ⟨⟨_,fun _ _ _=>rfl⟩⟩
def Qe(a b:Nat)(m:Int):Nat:=addL.1 a b m
theorem jX(a b:Nat)(m:Int):Qe a b m=yg a b m:=addL.2 a b m
def mulL:{f:Nat→Nat→Int→Nat // ∀a b m,f a b m=qj8 a b m}:=Classical.choice ⟨⟨_,fun _ _ _=>rfl⟩⟩
def qpr(a b:Nat)(m:Int):Nat:=mulL.1 a b m
theorem qd2(a b:Nat)(m:Int):qpr a b m=qj8 a b m:=mulL.2 a b m
end
end Su
