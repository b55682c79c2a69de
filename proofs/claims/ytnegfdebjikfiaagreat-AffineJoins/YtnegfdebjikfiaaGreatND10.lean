/-
  What functions of the program compute, in plain Lean, and that the evaluator finds it.
-/
import Derived.Test.YtnegfdebjikfiaaGreatSuXl
import Derived.Test.YtnegfdebjikfiaaGreatND04
import Derived.Test.YtnegfdebjikfiaaGreatNC08
set_option linter.unusedVariables false
set_option linter.unusedSimpArgs false
set_option maxRecDepth 10000
section
namespace Su
open Go Fly
noncomputable section
def qb4(a:Int)(b:Int)(mode:Int) :=
 bif(decide ((((qA (bK a.toNat)):Nat):Int)=3))then
 some ((((qCr (!(decide ((bS a.toNat)=(bS b.toNat))))):Nat):Int),(0:Int))
 else
  (bif(decide ((((qA (bK b.toNat)):Nat):Int)=3))then
  some ((((qCr (!(decide ((bS a.toNat)=(bS b.toNat))))):Nat):Int),(0:Int))
 else
  (qaT ((Qf (((spM (bK a.toNat)):Nat):Int)),(Qf (((spM (bK b.toNat)):Nat):Int)))).bind fun x0=>
  (qX ((!(decide ((bS a.toNat)=(bS b.toNat)))),x0,(IntKind.wrap .i64 ((spE (bK a.toNat))+(spE (bK b.toNat)))),false,mode)).bind fun x1=>
  some (x1.1,x1.2))
def qyC  (a:Int)(b:Int)(mode:Int):Option (Int×Int) :=
 (bif(decide ((((qA (bK a.toNat)):Nat):Int)=4))then
 some ((9221120237041090560:Int),(0:Int))
 else
  (bif(decide ((((qA (bK b.toNat)):Nat):Int)=4))then
  some ((9221120237041090560:Int),(0:Int))
 else
  (bif(decide ((((qA (bK a.toNat)):Nat):Int)=3))then
  (bif(decide ((((qA (bK b.toNat)):Nat):Int)=0))then
  some ((9221120237041090560:Int),(16:Int))
 else
  (bif(decide ((((qA (bK a.toNat)):Nat):Int)=0))then
  (bif(decide ((((qA (bK b.toNat)):Nat):Int)=3))then
  some ((9221120237041090560:Int),(16:Int))
 else
  (qb4 a b mode))
 else
  (qb4 a b mode)))
 else
  (bif(decide ((((qA (bK a.toNat)):Nat):Int)=0))then
  (bif(decide ((((qA (bK b.toNat)):Nat):Int)=3))then
  some ((9221120237041090560:Int),(16:Int))
 else
  (qb4 a b mode))
 else
  (qb4 a b mode)))))
theorem qtr{neg:Bool}{mode:Int}{j k:Nat}(hj:j≤9218868437227405311)(hk:k≤9218868437227405311) :
 rnd neg mode (spM j*spM k) (IntKind.i64.wrap (spE j+spE k)) false=RN neg mode (kM j*kM k) (kE j+kE k+3852) false:=by
 rw[jW hj,jW hk];obtain⟨a1,a2,a3,a4⟩:=q9 hj;obtain⟨b1,b2,b3,b4⟩:=q9 hk;rw[Zw,Kh];by_cases h0:j=0
 · have:kM j=0:=QS.2 h0
   rw[this,Vg,Qo,Qo]
 · by_cases h1:k=0
   · have:kM k=0:=QS.2 h1
     rw[this,VS,Qo,Qo]
   · rw[jl hj h0,jl hk h1,w64 (by omega) (by omega)]
     congr 1;omega
theorem qts(a b:List Bool):(qkz a b).length≤a.length+b.length:=qb1 a b b.length
theorem YU{k:Nat}(hk:k≤9218868437227405311):(Qf ((spM k:Nat):Int)).length≤53:=by
 rw[qtf,zm,jW hk];exact Qn.2 (qti k)
theorem qpM{neg:Bool}{mode:Int}{j k:Nat}(hj:j≤9218868437227405311)(hk:k≤9218868437227405311):∃fl,((qaT (Qf ((spM j:Nat):Int),Qf ((spM k:Nat):Int))).bind fun x0=>(qX (neg,x0,IntKind.i64.wrap (spE j+spE k),false,mode)).bind fun x1=>some (x1.1,x1.2))=some (((RN neg mode (kM j*kM k) (kE j+kE k+3852) false:Nat):Int),fl):=by
 have h1:=YU hj;have h2:=YU hk;have h3:=qts (Qf ((spM j:Nat):Int)) (Qf ((spM k:Nat):Int))
 rw[qkF (by omega),zj];unfold qX;simp only[];rw[zd (show(qkz (Qf ((spM j:Nat):Int)) (Qf ((spM k:Nat):Int))).length≤1000000000 by omega),zf,zj,qkB,qb2,qb2,zm,zm,qtr hj hk];exact⟨_,rfl⟩
theorem qtt{a b:Nat}(mode:Int):∃fl,qyC (a:Int) (b:Int) mode=some ((qj8 a b mode:Int),fl):=by
 have inf_e:∀k:Nat,Nat.beq k 9218868437227405312=qQ k:=fun k=>rfl
 unfold qyC qb4 qj8;simp only[zm,JB,qbE,Ya,inf_e];cases h1:qB (bK a)with
 | true=>exact⟨_,rfl⟩
 | false=>
 cases h2:qB (bK b)with
 | true=>exact⟨_,rfl⟩
 | false=>
 have h1':=qE.1 h1;have h2':=qE.1 h2;generalize hneg:(!decide (bS a=bS b))=neg
 cases h3:qQ (bK a)with
 | true=>
  have h5:Nat.beq (bK a) 0=false:=Qy (fun e=>by rw[e]at h3;exact absurd h3 (by decide))
  rw[h5];cases h6:Nat.beq (bK b) 0 <;> cases h7:qQ (bK b) <;> (simp only[zf,zi,zK,Wd,WJ,VK,VY];exact⟨_,rfl⟩)
 | false=>
 cases h4:qQ (bK b)with
 | true=>
  have h6:Nat.beq (bK b) 0=false:=Qy (fun e=>by rw[e]at h4;exact absurd h4 (by decide))
  rw[h6];cases h5:Nat.beq (bK a) 0 <;> (simp only[zf,zi,zK,Wd,WJ,VK,VY,VE];exact⟨_,rfl⟩)
 | false=>
 have i3:bK a≠9218868437227405312:=fun e=>by unfold qQ at h3;rw[e]at h3;simp at h3
 have i4:bK b≠9218868437227405312:=fun e=>by unfold qQ at h4;rw[e]at h4;simp at h4
 have fa:bK a≤9218868437227405311:=by omega
 have fb:bK b≤9218868437227405311:=by omega
 cases h5:Nat.beq (bK a) 0 <;> cases h6:Nat.beq (bK b) 0 <;> (simp only[zi,zf,VK,Kh];exact qpM fa fb)
end
end Su
end
section
namespace Su
open Go Fly
noncomputable section
def qiN(a:Int)(b:Int)(mode:Int) :=
 fun x5001 x5002=>
 bif(decide ((bS a.toNat)=(bS b.toNat)))then
 (yo (x5001,x5002)).bind fun x2=>
 (bif(decide ((qn (qf x2):Int)=0))then
 (bif(decide ((bS a.toNat)=(bS b.toNat)))then
 some ((((sgN (bS a.toNat)):Nat):Int),(0:Int))
 else
  some ((((sgN (decide (mode=2))):Nat):Int),(0:Int)))
 else
  (qX ((bS a.toNat),x2,(min (spE (bK b.toNat)) (spE (bK b.toNat))),false,mode)).bind fun x3=>
  some (x3.1,x3.2))
 else
  (bif(decide (0≤(jN (qf x5001) (qf x5002))))then
  (QI (x5001,x5002,(IntKind.wrap .i64 ((List.length x5001:Int)+(List.length x5002:Int))))).bind fun x4=>
  (bif(decide ((qn (qf x4.1):Int)=0))then
  (bif(decide ((bS a.toNat)=(bS b.toNat)))then
  some ((((sgN (bS a.toNat)):Nat):Int),(0:Int))
 else
  some ((((sgN (decide (mode=2))):Nat):Int),(0:Int)))
 else
  (qX ((bS a.toNat),x4.1,(min (spE (bK b.toNat)) (spE (bK b.toNat))),false,mode)).bind fun x5=>
  some (x5.1,x5.2))
 else
  (QI (x5002,x5001,(IntKind.wrap .i64 ((List.length x5001:Int)+(List.length x5002:Int))))).bind fun x6=>
  (bif(decide ((qn (qf x6.1):Int)=0))then
  (bif(decide ((bS a.toNat)=(bS b.toNat)))then
  some ((((sgN (bS a.toNat)):Nat):Int),(0:Int))
 else
  some ((((sgN (decide (mode=2))):Nat):Int),(0:Int)))
 else
  (qX ((bS b.toNat),x6.1,(min (spE (bK b.toNat)) (spE (bK b.toNat))),false,mode)).bind fun x7=>
  some (x7.1,x7.2)))
def qea(a:Int)(b:Int)(mode:Int) :=
 bif(decide ((((qA (bK a.toNat)):Nat):Int)=3))then
 some (a,(0:Int))
 else
  (bif(decide ((((qA (bK b.toNat)):Nat):Int)=3))then
  some (b,(0:Int))
 else
  (bif(decide ((((spM (bK a.toNat)):Nat):Int)=0))then
  (bif(decide ((((spM (bK b.toNat)):Nat):Int)=0))then
  (jv ((Qf (((spM (bK a.toNat)):Nat):Int)),(IntKind.wrap .i64 ((spE (bK b.toNat))-(min (spE (bK b.toNat)) (spE (bK b.toNat))))))).bind fun x0=>
  (jv ((Qf (((spM (bK b.toNat)):Nat):Int)),(IntKind.wrap .i64 ((spE (bK b.toNat))-(min (spE (bK b.toNat)) (spE (bK b.toNat))))))).bind fun x1=>
  (qiN a b mode x0 x1)
 else
  (jv ((Qf (((spM (bK a.toNat)):Nat):Int)),(IntKind.wrap .i64 ((spE (bK b.toNat))-(min (spE (bK b.toNat)) (spE (bK b.toNat))))))).bind fun x8=>
  (jv ((Qf (((spM (bK b.toNat)):Nat):Int)),(IntKind.wrap .i64 ((spE (bK b.toNat))-(min (spE (bK b.toNat)) (spE (bK b.toNat))))))).bind fun x9=>
  (qiN a b mode x8 x9))
 else
  (bif(decide ((((spM (bK b.toNat)):Nat):Int)=0))then
  (jv ((Qf (((spM (bK a.toNat)):Nat):Int)),(IntKind.wrap .i64 ((spE (bK a.toNat))-(min (spE (bK a.toNat)) (spE (bK a.toNat))))))).bind fun x16=>
  (jv ((Qf (((spM (bK b.toNat)):Nat):Int)),(IntKind.wrap .i64 ((spE (bK a.toNat))-(min (spE (bK a.toNat)) (spE (bK a.toNat))))))).bind fun x17=>
  (bif(decide ((bS a.toNat)=(bS b.toNat)))then
  (yo (x16,x17)).bind fun x18=>
  (bif(decide ((qn (qf x18):Int)=0))then
  (bif(decide ((bS a.toNat)=(bS b.toNat)))then
  some ((((sgN (bS a.toNat)):Nat):Int),(0:Int))
 else
  some ((((sgN (decide (mode=2))):Nat):Int),(0:Int)))
 else
  (qX ((bS a.toNat),x18,(min (spE (bK a.toNat)) (spE (bK a.toNat))),false,mode)).bind fun x19=>
  some (x19.1,x19.2))
 else
  (bif(decide (0≤(jN (qf x16) (qf x17))))then
  (QI (x16,x17,(IntKind.wrap .i64 ((List.length x16:Int)+(List.length x17:Int))))).bind fun x20=>
  (bif(decide ((qn (qf x20.1):Int)=0))then
  (bif(decide ((bS a.toNat)=(bS b.toNat)))then
  some ((((sgN (bS a.toNat)):Nat):Int),(0:Int))
 else
  some ((((sgN (decide (mode=2))):Nat):Int),(0:Int)))
 else
  (qX ((bS a.toNat),x20.1,(min (spE (bK a.toNat)) (spE (bK a.toNat))),false,mode)).bind fun x21=>
  some (x21.1,x21.2))
 else
  (QI (x17,x16,(IntKind.wrap .i64 ((List.length x16:Int)+(List.length x17:Int))))).bind fun x22=>
  (bif(decide ((qn (qf x22.1):Int)=0))then
  (bif(decide ((bS a.toNat)=(bS b.toNat)))then
  some ((((sgN (bS a.toNat)):Nat):Int),(0:Int))
 else
  some ((((sgN (decide (mode=2))):Nat):Int),(0:Int)))
 else
  (qX ((bS b.toNat),x22.1,(min (spE (bK a.toNat)) (spE (bK a.toNat))),false,mode)).bind fun x23=>
  some (x23.1,x23.2))))
 else
  (jv ((Qf (((spM (bK a.toNat)):Nat):Int)),(IntKind.wrap .i64 ((spE (bK a.toNat))-(min (spE (bK a.toNat)) (spE (bK b.toNat))))))).bind fun x24=>
  (jv ((Qf (((spM (bK b.toNat)):Nat):Int)),(IntKind.wrap .i64 ((spE (bK b.toNat))-(min (spE (bK a.toNat)) (spE (bK b.toNat))))))).bind fun x25=>
  (bif(decide ((bS a.toNat)=(bS b.toNat)))then
  (yo (x24,x25)).bind fun x26=>
  (bif(decide ((qn (qf x26):Int)=0))then
  (bif(decide ((bS a.toNat)=(bS b.toNat)))then
  some ((((sgN (bS a.toNat)):Nat):Int),(0:Int))
 else
  some ((((sgN (decide (mode=2))):Nat):Int),(0:Int)))
 else
  (qX ((bS a.toNat),x26,(min (spE (bK a.toNat)) (spE (bK b.toNat))),false,mode)).bind fun x27=>
  some (x27.1,x27.2))
 else
  (bif(decide (0≤(jN (qf x24) (qf x25))))then
  (QI (x24,x25,(IntKind.wrap .i64 ((List.length x24:Int)+(List.length x25:Int))))).bind fun x28=>
  (bif(decide ((qn (qf x28.1):Int)=0))then
  (bif(decide ((bS a.toNat)=(bS b.toNat)))then
  some ((((sgN (bS a.toNat)):Nat):Int),(0:Int))
 else
  some ((((sgN (decide (mode=2))):Nat):Int),(0:Int)))
 else
  (qX ((bS a.toNat),x28.1,(min (spE (bK a.toNat)) (spE (bK b.toNat))),false,mode)).bind fun x29=>
  some (x29.1,x29.2))
 else
  (QI (x25,x24,(IntKind.wrap .i64 ((List.length x24:Int)+(List.length x25:Int))))).bind fun x30=>
  (bif(decide ((qn (qf x30.1):Int)=0))then
  (bif(decide ((bS a.toNat)=(bS b.toNat)))then
  some ((((sgN (bS a.toNat)):Nat):Int),(0:Int))
 else
  some ((((sgN (decide (mode=2))):Nat):Int),(0:Int)))
 else
  (qX ((bS b.toNat),x30.1,(min (spE (bK a.toNat)) (spE (bK b.toNat))),false,mode)).bind fun x31=>
  some (x31.1,x31.2)))))))
def qyD  (a:Int)(b:Int)(mode:Int):Option (Int×Int) :=
 (bif(decide ((((qA (bK a.toNat)):Nat):Int)=4))then
 some ((9221120237041090560:Int),(0:Int))
 else
  (bif(decide ((((qA (bK b.toNat)):Nat):Int)=4))then
  some ((9221120237041090560:Int),(0:Int))
 else
  (bif(decide ((((qA (bK a.toNat)):Nat):Int)=3))then
  (bif(decide ((((qA (bK b.toNat)):Nat):Int)=3))then
  (bif(!(decide ((bS a.toNat)=(bS b.toNat))))then
  some ((9221120237041090560:Int),(16:Int))
 else
  (qea a b mode))
 else
  (qea a b mode))
 else
  (qea a b mode))))
def addV(na nb:Bool)(mode:Int)(P Q E:Nat):Nat :=
 if na=nb then(if P+Q=0 then sgN na else RN na mode (P+Q) E false)
 else if P=Q then sgN (decide (mode=2))else if Q<P then RN na mode (P-Q) E false else RN nb mode (Q-P) E false
theorem qgW(na nb:Bool)(mode:Int)(P Q E:Nat):addV na nb mode P Q E=addV nb na mode Q P E:=by
 by_cases h:na=nb
 · subst h;unfold addV;rw[zR rfl,zR rfl,WG]
 · have h' : ¬nb=na:=fun e=>h e.symm
   unfold addV;rw[zP h,zP h'];by_cases h1:P=Q
   · rw[zR h1,zR h1.symm]
   · have h1' : ¬Q=P:=fun e=>h1 e.symm
     rw[zP h1,zP h1'];by_cases h2:Q<P
     · have h2' : ¬P<Q:=by omega
       rw[zR h2,zP h2']
     · have h2':P<Q:=by omega
       rw[zP h2,zR h2']
theorem qtu{na nb:Bool}{mode:Int}{X Y D:Nat}{ey:Int}(hX:1≤X)(hle:Y≤2^D*X):addV na nb mode (2^D*X) Y (ey+6000).toNat=qcP na nb mode X Y D ey:=by
 unfold addV qcP;have hD:=Va (zJ D) hX
 by_cases h:na=nb
 · rw[zR h,zR h,zP (by omega)]
 · rw[zP h,zP h]
   by_cases h1:2^D*X=Y
   · rw[zR h1,zR h1]
   · rw[zP h1,zP h1,zR (by omega)]
theorem qgX{i j:Nat}(hi:i≤9218868437227405311)(hj:j≤9218868437227405311)(h:kE j<kE i∨kE j=kE i∧kM j≤kM i):kM j≤2^(kE i-kE j)*kM i:=by
 obtain⟨a1,a2,a3,a4⟩:=q9 hi;obtain⟨b1,b2,b3,b4⟩:=q9 hj;rcases h with h | ⟨h1,h2⟩
 · have hp:2^1≤2^(kE i-kE j):=KK (by omega) (by omega)
   have h4:=a4 (by omega)
   have:=Va hp h4
   omega
 · rw[h1,Vv,KH,Vq];exact h2
theorem qpN{a b:Nat}{mode:Int}(fa:bK a≤9218868437227405311)(fb:bK b≤9218868437227405311)(za:bK a≠0)(zb:bK b≠0) :
 yg a b mode=addV (bS a) (bS b) mode (2^(kE (bK a)-kE (bK b))*kM (bK a)) (2^(kE (bK b)-kE (bK a))*kM (bK b)) (min (kE (bK a)) (kE (bK b))+4926):=by
 have n1:qB (bK a)=false:=qE.2 (by omega)
 have n2:qB (bK b)=false:=qE.2 (by omega)
 have i1:qQ (bK a)=false:=by unfold qQ;rw[beq_dec];exact zh (by omega)
 have i2:qQ (bK b)=false:=by unfold qQ;rw[beq_dec];exact zh (by omega)
 have k1:=(q9 fa).2.1 za
 have k2:=(q9 fb).2.1 zb
 unfold yg;rw[n1,n2,i1,i2,Qy za,Qy zb];simp only[zi,Kh];unfold Zy;by_cases h:kE (bK a)<kE (bK b)∨kE (bK a)=kE (bK b)∧kM (bK a)<kM (bK b)
 · have hs:(decide (kE (bK a)<kE (bK b))||(decide (kE (bK a)=kE (bK b))&&decide (kM (bK a)<kM (bK b))))=true:=by
    rw[← WK,← Bool.decide_or];exact zd h
   rw[hs,zf,qgW];have hl:=qgX fb fa (by omega)
   have e1:kE (bK a)-kE (bK b)=0:=by omega
   have e2:min (kE (bK a)) (kE (bK b))+4926=(((kE (bK a):Int)-1074)+6000).toNat:=by omega
   rw[e1,KH,Vq,e2,qtu k2 hl];rfl
 · have hs:(decide (kE (bK a)<kE (bK b))||(decide (kE (bK a)=kE (bK b))&&decide (kM (bK a)<kM (bK b))))=false:=by
    rw[← WK,← Bool.decide_or];exact zh h
   rw[hs,zi];have hl:=qgX fa fb (by omega)
   have e1:kE (bK b)-kE (bK a)=0:=by omega
   have e2:min (kE (bK a)) (kE (bK b))+4926=(((kE (bK b):Int)-1074)+6000).toNat:=by omega
   rw[e1,KH,Vq,e2,qtu k1 hl];rfl
theorem qn2{na:Bool}{b:Nat}{mode:Int}(hb:b<18446744073709551616)(fb:bK b≤9218868437227405311)(zb:bK b≠0):addV na (bS b) mode 0 (kM (bK b)) (kE (bK b)+4926)=b:=by
 have k2:=(q9 fb).2.1 zb
 have hs:=qxb (neg:=bS b) (mode:=mode) (k:=bK b) (by unfold qU;exact fb)
 rw[qbx,← qil hb]at hs;unfold addV;by_cases h:na=bS b
 · rw[zR h,zP (by omega),h,Kk];exact hs
 · rw[zP h,zP (by omega),zP (by omega),WD];exact hs
theorem qCy{A B:Nat}:decide (0≤jN A B)=decide (B≤A):=by
 refine Wh.2 ?_
 unfold jN;by_cases h1:A<B
 · rw[zR h1];omega
 · rw[zP h1]
   by_cases h2:A=B
   · rw[zR h2];omega
   · rw[zP h2];omega
theorem qml(n:Nat):decide (((qn n:Nat):Int)=0)=decide (n=0):=by
 refine Wh.2 ⟨fun h=>?_,fun h=>by subst h;rw[qgC];rfl⟩
 refine Classical.byContradiction fun h0=>?_
 have:=Jm h0;omega
theorem qgY{p q:List Bool}(hp:p.length≤100000)(hq:q.length≤100000)(h:qf q≤qf p):QI (p,q,IntKind.i64.wrap ((p.length:Int)+(q.length:Int)))=some (qK (p.length+q.length) (qf p-qf q),false):=by
 unfold QI;simp only[];rw[w64 (by omega) (by omega),show((p.length:Int)+(q.length:Int)).toNat=p.length+q.length by omega,zd h,zB (by omega),zB (by omega)];rfl
theorem qeb{p q:List Bool}:qf (qK (p.length+q.length) (qf p-qf q))=qf p-qf q:=by
 rw[Yf];refine Kq ?_
 have h1:=QC (a:=p) (n:=p.length+q.length) (by omega)
 omega
theorem qaU{neg:Bool}{mode low:Int}{m:List Bool}(hm:m.length≤1000000)(h1 : -5000≤low)(h2:low≤5000):∃fl,qX (neg,m,low,false,mode)=some (((RN neg mode (qf m) (low+6000).toNat false:Nat):Int),fl):=by
 unfold qX;simp only[];rw[zd (show m.length≤1000000000 by omega),zf,Zw,Kh,show min (max low (-5000)) 5000=low by omega];exact⟨_,rfl⟩
def tlU(na nb:Bool)(mode low:Int)(x0 x1:List Bool):Option (Int×Int) :=
 bif decide (na=nb)then
  (yo (x0,x1)).bind fun x2=>
  bif decide (((qn (qf x2):Nat):Int)=0)then(bif decide (na=nb)then some (((sgN na:Nat):Int),(0:Int))else some (((sgN (decide (mode=2)):Nat):Int),(0:Int)))
  else(qX (na,x2,low,false,mode)).bind fun x3=>some (x3.1,x3.2)
 else bif decide (0≤jN (qf x0) (qf x1))then
  (QI (x0,x1,IntKind.i64.wrap ((x0.length:Int)+(x1.length:Int)))).bind fun x4=>
  bif decide (((qn (qf x4.1):Nat):Int)=0)then(bif decide (na=nb)then some (((sgN na:Nat):Int),(0:Int))else some (((sgN (decide (mode=2)):Nat):Int),(0:Int)))
  else(qX (na,x4.1,low,false,mode)).bind fun x5=>some (x5.1,x5.2)
 else
  (QI (x1,x0,IntKind.i64.wrap ((x0.length:Int)+(x1.length:Int)))).bind fun x6=>
  bif decide (((qn (qf x6.1):Nat):Int)=0)then(bif decide (na=nb)then some (((sgN na:Nat):Int),(0:Int))else some (((sgN (decide (mode=2)):Nat):Int),(0:Int)))
  else(qX (nb,x6.1,low,false,mode)).bind fun x7=>some (x7.1,x7.2)
theorem qyE{na nb:Bool}{mode low:Int}{p q:List Bool}(hp:p.length≤100000)(hq:q.length≤100000)(h1 : -5000≤low)(h2:low≤5000) :
 ∃fl,tlU na nb mode low p q=some (((addV na nb mode (qf p) (qf q) (low+6000).toNat:Nat):Int),fl):=by
 unfold tlU addV;by_cases hs:na=nb
 · have hl:=ZG p q
   rw[zd hs,zf,zR hs,qb3 (by omega),zj,qml,qbZ];by_cases h0:qf p+qf q=0
   · rw[zd h0,zf,zR h0];exact⟨_,rfl⟩
   · rw[zh h0,zi,zP h0]
     obtain⟨fl,e⟩:=qaU (neg:=na) (mode:=mode) (m:=QH p q) (by omega) h1 h2
     rw[e,qbZ];exact⟨fl,rfl⟩
 · rw[zh hs,zi,zP hs,qCy]
   by_cases hle:qf q≤qf p
   · rw[zd hle,zf,qgY hp hq hle,zj]
     simp only[qeb,qml];by_cases h0:qf p=qf q
     · rw[zd (show qf p-qf q=0 by omega),zf,zi,zR h0];exact⟨_,rfl⟩
     · rw[zh (show¬qf p-qf q=0 by omega),zi,zP h0,zR (by omega)]
       obtain⟨fl,e⟩:=qaU (neg:=na) (mode:=mode) (m:=qK (p.length+q.length) (qf p-qf q)) (by rw[yh];omega) h1 h2
       rw[e,qeb];exact⟨fl,rfl⟩
   · rw[zh hle,zi,Int.add_comm (p.length:Int),qgY hq hp (by omega),zj]
     simp only[qeb,qml];rw[zh (show¬qf q-qf p=0 by omega),zi,zP (by omega),zP (by omega)];obtain⟨fl,e⟩:=qaU (neg:=nb) (mode:=mode) (m:=qK (q.length+p.length) (qf q-qf p)) (by rw[yh];omega) h1 h2
     rw[e,qeb];exact⟨fl,rfl⟩
theorem qn3{na nb:Bool}{mode e f:Int}{j k:Nat}(hj:j≤9218868437227405311)(hk:k≤9218868437227405311)(e1 : -1074≤e)(e2:e≤971)(f1 : -1074≤f)(f2:f≤971) :
 ∃fl,((jv (Qf ((spM j:Nat):Int),IntKind.i64.wrap (e-min e f))).bind fun x0=>(jv (Qf ((spM k:Nat):Int),IntKind.i64.wrap (f-min e f))).bind fun x1=>tlU na nb mode (min e f) x0 x1) =
  some (((addV na nb mode (2^(e-min e f).toNat*spM j) (2^(f-min e f).toNat*spM k) (min e f+6000).toNat:Nat):Int),fl):=by
 have l1:=YU hj;have l2:=YU hk;have v1:qf (Qf ((spM j:Nat):Int))=spM j:=by rw[qb2,zm]
 have v2:qf (Qf ((spM k:Nat):Int))=spM k:=by rw[qb2,zm]
 have w1:(e-min e f).toNat≤3000:=by omega
 have w2:(f-min e f).toNat≤3000:=by omega
 rw[w64 (by omega) (by omega),w64 (by omega) (by omega),Yh (by omega),zj,Yh (by omega),zj];have:=qyE (na:=na) (nb:=nb) (mode:=mode) (low:=min e f) (p:=List.replicate (e-min e f).toNat false++Qf ((spM j:Nat):Int)) (q:=List.replicate (f-min e f).toNat false++Qf ((spM k:Nat):Int))
  (by rw[zp,KN];omega) (by rw[zp,KN];omega) (by omega) (by omega)
 rw[Yg,Yg,v1,v2]at this;exact this
theorem qn4{k:Nat}(hk:k≤9218868437227405311) : -1074≤spE k∧spE k≤971:=by
 by_cases h0:k=0
 · subst h0;decide
 · rw[jl hk h0]
   have:=(q9 hk).2.2.1
   omega
theorem qfk{a b:Nat}{mode:Int}(ha:a<18446744073709551616)(hb:b<18446744073709551616)(fa:bK a≤9218868437227405311)(fb:bK b≤9218868437227405311) :
 (Nat.beq (bK a) 0=true→Nat.beq (bK b) 0=true→∀E,addV (bS a) (bS b) mode 0 0 E=yg a b mode)∧(Nat.beq (bK a) 0=true→Nat.beq (bK b) 0=false→yg a b mode=b)∧(Nat.beq (bK a) 0=false→Nat.beq (bK b) 0=true→yg a b mode=a):=by
 have n1:qB (bK a)=false:=qE.2 (by omega)
 have n2:qB (bK b)=false:=qE.2 (by omega)
 have i1:qQ (bK a)=false:=by unfold qQ;rw[beq_dec];exact zh (by omega)
 have i2:qQ (bK b)=false:=by unfold qQ;rw[beq_dec];exact zh (by omega)
 unfold yg;rw[n1,n2,i1,i2];simp only[zi,Kh];refine⟨fun z1 z2 E=>?_,fun z1 z2=>?_,fun z1 z2=>?_⟩
 · rw[z1,z2]
   unfold addV;by_cases h:bS a=bS b
   · rw[zd h,zR h,zR rfl]
     have:=qil ha
     have:=zk z1
     simp only[zW,zf];omega
   · rw[zh h,zP h,zR rfl];rfl
 · rw[z1,z2];rfl
 · rw[z1,z2];rfl
theorem qdx{k:Nat}(h:Nat.beq k 0=true):spM k=0:=by rw[zk h];rfl
theorem qtv{a b:Nat}(ha:a<18446744073709551616)(hb:b<18446744073709551616)(mode:Int):∃fl,qyD (a:Int) (b:Int) mode=some ((yg a b mode:Int),fl):=by
 have inf_e:∀k:Nat,Nat.beq k 9218868437227405312=qQ k:=fun k=>rfl
 have q2:∀ {k:Nat},k≤9218868437227405311→decide (((spM k:Nat):Int)=0)=Nat.beq k 0:=fun {k} hk=>by
  rw[jW hk,show(0:Int)=((0:Nat):Int) from rfl,Jq,beq_dec];by_cases h:k=0
  · rw[zd h,zd (QS.2 h)]
  · rw[zh h,zh (fun e=>h (QS.1 e))]
 unfold qyD qea qiN;simp only[zm,JB,qbE,inf_e];by_cases hfin:bK a≤9218868437227405311∧bK b≤9218868437227405311
 · obtain⟨fa,fb⟩:=hfin
   have n1:qB (bK a)=false:=qE.2 (by omega)
   have n2:qB (bK b)=false:=qE.2 (by omega)
   have i1:qQ (bK a)=false:=by unfold qQ;rw[beq_dec];exact zh (by omega)
   have i2:qQ (bK b)=false:=by unfold qQ;rw[beq_dec];exact zh (by omega)
   obtain⟨c1,c2,c3⟩:=qfk (mode:=mode) ha hb fa fb
   obtain⟨r1,r2⟩:=qn4 fa;obtain⟨r3,r4⟩:=qn4 fb;simp only[n1,n2,i1,i2,zi,q2 fa,q2 fb];cases z1:Nat.beq (bK a) 0 with
   | true=>
    cases z2:Nat.beq (bK b) 0 with
    | true=>
     simp only[zf];have h:=qn3 (na:=bS a) (nb:=bS b) (mode:=mode) (e:=spE (bK b)) (f:=spE (bK b)) fa fb r3 r4 r3 r4
     rw[qdx z1,qdx z2,VS,c1 z1 z2]at h;rw[qdx z1,qdx z2];exact h
    | false=>
     simp only[zf,zi];have h:=qn3 (na:=bS a) (nb:=bS b) (mode:=mode) (e:=spE (bK b)) (f:=spE (bK b)) fa fb r3 r4 r3 r4
     have zb:bK b≠0:=fun e=>by rw[e]at z2;simp at z2
     have e1:(spE (bK b)-min (spE (bK b)) (spE (bK b))).toNat=0:=by omega
     have e2:(min (spE (bK b)) (spE (bK b))+6000).toNat=kE (bK b)+4926:=by rw[jl fb zb];omega
     rw[e1,e2,qdx z1,VS,KH,Vq,jW fb,qn2 hb fb zb]at h;rw[qdx z1,c2 z1 z2,jW fb];exact h
   | false=>
    have za:bK a≠0:=fun e=>by rw[e]at z1;simp at z1
    cases z2:Nat.beq (bK b) 0 with
    | true=>
     simp only[zf,zi];have h:=qn3 (na:=bS a) (nb:=bS b) (mode:=mode) (e:=spE (bK a)) (f:=spE (bK a)) fa fb r1 r2 r1 r2
     have e1:(spE (bK a)-min (spE (bK a)) (spE (bK a))).toNat=0:=by omega
     have e2:(min (spE (bK a)) (spE (bK a))+6000).toNat=kE (bK a)+4926:=by rw[jl fa za];omega
     rw[e1,e2,qdx z2,VS,KH,Vq,jW fa,qgW,qn2 ha fa za]at h;rw[qdx z2,c3 z1 z2,jW fa];exact h
    | false=>
     have zb:bK b≠0:=fun e=>by rw[e]at z2;simp at z2
     simp only[zi];have h:=qn3 (na:=bS a) (nb:=bS b) (mode:=mode) (e:=spE (bK a)) (f:=spE (bK b)) fa fb r1 r2 r3 r4
     have e1:(spE (bK a)-min (spE (bK a)) (spE (bK b))).toNat=kE (bK a)-kE (bK b):=by rw[jl fa za,jl fb zb];omega
     have e2:(spE (bK b)-min (spE (bK a)) (spE (bK b))).toNat=kE (bK b)-kE (bK a):=by rw[jl fa za,jl fb zb];omega
     have e3:(min (spE (bK a)) (spE (bK b))+6000).toNat=min (kE (bK a)) (kE (bK b))+4926:=by rw[jl fa za,jl fb zb];omega
     rw[qpN fa fb za zb];rw[e1,e2,e3]at h;rw[jW fa,jW fb]at h ⊢;exact h
 · unfold yg
   cases h1:qB (bK a)with
   | true=>exact⟨_,rfl⟩
   | false=>
   cases h2:qB (bK b)with
   | true=>exact⟨_,rfl⟩
   | false=>
   have h1':=qE.1 h1;have h2':=qE.1 h2;cases h3:qQ (bK a)with
   | true=>
    cases h4:qQ (bK b)with
    | true=>
     cases decide (bS a=bS b)with
     | true=>exact⟨_,rfl⟩
     | false=>exact⟨_,rfl⟩
    | false=>exact⟨_,rfl⟩
   | false=>
   cases h4:qQ (bK b)with
   | true=>exact⟨_,rfl⟩
   | false=>
    have i3:bK a≠9218868437227405312:=fun e=>by unfold qQ at h3;rw[e]at h3;simp at h3
    have i4:bK b≠9218868437227405312:=fun e=>by unfold qQ at h4;rw[e]at h4;simp at h4
    exact absurd ⟨by omega,by omega⟩ hfin
end
end Su
end
