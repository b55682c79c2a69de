/-
  What functions compute.
-/
import Derived.Test.YtldhknmacepeiaaGreatDoorRfd
set_option linter.unusedVariables false
set_option linter.unusedSimpArgs false
set_option maxRecDepth 10000
namespace Su
open Go Fly
noncomputable section
def qfn(d:ByteArray)(q:Int) :=
 bif(true&&(decide (1≤(ByteArray.size d:Int))))then
 (bif(decide (1<(ByteArray.size d:Int)))then
 (bif((true&&(decide (1≤(ByteArray.size d:Int))))&&(decide ((ByteArray.size d:Int)≤(ByteArray.size d:Int))))then
 (bif(Nat.ble (1+(ByteArray.size (ByteArray.extract d 1 (Int.toNat (ByteArray.size d:Int))))) 549755813888)then
 (bif(Nat.ble ((ByteArray.size (ByteArray.extract d 0 1))+(ByteArray.size ((ByteArray.mk (List.toArray [46]))++(ByteArray.extract d 1 (Int.toNat (ByteArray.size d:Int)))))) 549755813888)then
 (bif(Nat.ble ((ByteArray.size ((ByteArray.extract d 0 1)++((ByteArray.mk (List.toArray [46]))++(ByteArray.extract d 1 (Int.toNat (ByteArray.size d:Int))))))+1) 549755813888)then
 (qgx (IntKind.wrap .i64 ((IntKind.wrap .i64 ((ByteArray.size d:Int)+q))-1))).bind fun x2=>
 (bif(Nat.ble ((ByteArray.size (((ByteArray.extract d 0 1)++((ByteArray.mk (List.toArray [46]))++(ByteArray.extract d 1 (Int.toNat (ByteArray.size d:Int)))))++(ByteArray.mk (List.toArray [101]))))+(ByteArray.size x2)) 549755813888)then
 some ((((ByteArray.extract d 0 1)++((ByteArray.mk (List.toArray [46]))++(ByteArray.extract d 1 (Int.toNat (ByteArray.size d:Int)))))++(ByteArray.mk (List.toArray [101])))++x2)
 else none)
 else none)
 else none)
 else none)
 else none)
 else
  (bif(Nat.ble ((ByteArray.size (ByteArray.extract d 0 1))+1) 549755813888)then
  (qgx (IntKind.wrap .i64 ((IntKind.wrap .i64 ((ByteArray.size d:Int)+q))-1))).bind fun x3=>
  (bif(Nat.ble ((ByteArray.size ((ByteArray.extract d 0 1)++(ByteArray.mk (List.toArray [101]))))+(ByteArray.size x3)) 549755813888)then
  some (((ByteArray.extract d 0 1)++(ByteArray.mk (List.toArray [101])))++x3)
 else none)
 else none))
 else
  none
def qfo(d:ByteArray)(q:Int) :=
 bif(decide ((-5)≤(IntKind.wrap .i64 ((ByteArray.size d:Int)+q))))then
 (bif(decide ((IntKind.wrap .i64 ((ByteArray.size d:Int)+q))≤0))then
 (qfk ((),(IntKind.wrap .i64 (0-(IntKind.wrap .i64 ((ByteArray.size d:Int)+q)))))).bind fun x1=>
 (bif(Nat.ble (2+(ByteArray.size x1)) 549755813888)then
 (bif(Nat.ble ((ByteArray.size ((ByteArray.mk (List.toArray [48,46]))++x1))+(ByteArray.size d)) 549755813888)then
 some (((ByteArray.mk (List.toArray [48,46]))++x1)++d)
 else none)
 else none)
 else
  (qfn d q))
 else
  (qfn d q)
def qfp(d:ByteArray)(q:Int) :=
 bif(decide (q<0))then
 (bif(decide (0<(IntKind.wrap .i64 ((ByteArray.size d:Int)+q))))then
 (bif((true&&(decide (0≤(IntKind.wrap .i64 ((ByteArray.size d:Int)+q)))))&&(decide ((IntKind.wrap .i64 ((ByteArray.size d:Int)+q))≤(ByteArray.size d:Int))))then
 (bif(Nat.ble ((ByteArray.size (ByteArray.extract d 0 (Int.toNat (IntKind.wrap .i64 ((ByteArray.size d:Int)+q)))))+1) 549755813888)then
 (bif(((decide (0≤(IntKind.wrap .i64 ((ByteArray.size d:Int)+q))))&&(decide ((IntKind.wrap .i64 ((ByteArray.size d:Int)+q))≤(ByteArray.size d:Int))))&&(decide ((ByteArray.size d:Int)≤(ByteArray.size d:Int))))then
 (bif(Nat.ble ((ByteArray.size ((ByteArray.extract d 0 (Int.toNat (IntKind.wrap .i64 ((ByteArray.size d:Int)+q))))++(ByteArray.mk (List.toArray [46]))))+(ByteArray.size (ByteArray.extract d (Int.toNat (IntKind.wrap .i64 ((ByteArray.size d:Int)+q))) (Int.toNat (ByteArray.size d:Int))))) 549755813888)then
 some (((ByteArray.extract d 0 (Int.toNat (IntKind.wrap .i64 ((ByteArray.size d:Int)+q))))++(ByteArray.mk (List.toArray [46])))++(ByteArray.extract d (Int.toNat (IntKind.wrap .i64 ((ByteArray.size d:Int)+q))) (Int.toNat (ByteArray.size d:Int))))
 else none)
 else none)
 else none)
 else none)
 else
  (qfo d q))
 else
  (qfo d q)
def qmS  (d:ByteArray)(q:Int):Option ByteArray :=
 (bif(decide (0≤q))then
 (bif(decide ((IntKind.wrap .i64 ((ByteArray.size d:Int)+q))≤21))then
 (qfk ((),q)).bind fun x0=>
 (bif(Nat.ble ((ByteArray.size d)+(ByteArray.size x0)) 549755813888)then
 (bif(Nat.ble ((ByteArray.size (d++x0))+2) 549755813888)then
 some ((d++x0)++(ByteArray.mk (List.toArray [46,48])))
 else none)
 else none)
 else
  (qfp d q))
 else
  (qfp d q))
theorem bdT{α:Type}{p:Prop}[Decidable p](h:p)(a b:α):(bif decide p then a else b)=a:=by rw[zh h];rfl
theorem bdF{α:Type}{p:Prop}[Decidable p](h : ¬p)(a b:α):(bif decide p then a else b)=b:=by rw[zq h];rfl
theorem bdA{α:Type}(x y:Bool)(a b:α):(bif x&&y then a else b)=bif x then(bif y then a else b)else b:=by cases x <;> rfl
theorem bdB{α:Type}{n m:Nat}(h:n≤m)(a b:α):(bif Nat.ble n m then a else b)=a:=by rw[zN h];rfl
def qgE(d:List UInt8)(q:Int):List UInt8 :=
 if 0≤q∧(d.length:Int)+q≤21 then d++zs q.toNat++[46,48]else
 if q<0∧0<(d.length:Int)+q then d.take ((d.length:Int)+q).toNat++[46]++d.drop ((d.length:Int)+q).toNat else
 if(d.length:Int)+q≤0∧-5≤(d.length:Int)+q then[48,46]++zs (-((d.length:Int)+q)).toNat++d else
 d.take 1++(if 1<d.length then 46::d.drop 1 else[])++101::itT ((d.length:Int)+q-1)
def okF(d:List UInt8)(q:Int):Bool:=decide (1≤d.length)&&(decide (d.length≤1000)&&(decide (-1000≤q)&&decide (q≤1000)))
theorem qh7{d:List UInt8}{q:Int}:okF d q=true↔1≤d.length∧d.length≤1000∧-1000≤q∧q≤1000:=by
 unfold okF;simp only[zp,zY]
def QE(p:ByteArray×Int):Option ByteArray:=bif okF (lb p.1) p.2 then some (bs (qgE (lb p.1) p.2))else none
theorem qvB{n:Int}(h1:0≤n)(h2:n≤40):qfk ((),n)=some (bs (zs n.toNat)):=by unfold qfk;rw[zh h1,zh h2];rfl
theorem it_v{n:Int}(h1 : -10000≤n)(h2:n≤10000):qgx n=some (bs (itT n)):=by unfold qgx;rw[zh (by omega),zh (by omega)];rfl
theorem qh8(n:Nat):(zs n).length=n:=WO
theorem qrs(p:ByteArray×Int)(y:ByteArray)(hg:(dc cS (d1 (cI .i64))).good p)(h:QE p=some y):qmS p.1 p.2=some y:=by
 obtain⟨d,q⟩:=p;revert h;refine onB (P:=fun d=>QE (d,q)=some y→qmS d q=some y) (fun l h=>?_) d
 obtain⟨h1,h2⟩:=qL h;have:=soi h2;subst this
 simp only[qgv]at h1 ⊢;obtain⟨a1,a2,a3,a4⟩:=qh7.1 h1;clear hg h h1 h2;have w1:IntKind.i64.wrap (((l.length:Nat):Int)+q)=((l.length:Nat):Int)+q:=w64 (by omega) (by omega)
 have w2:IntKind.i64.wrap (0-(((l.length:Nat):Int)+q)) = -(((l.length:Nat):Int)+q):=by rw[w64 (by omega) (by omega)];omega
 have w3:IntKind.i64.wrap (((l.length:Nat):Int)+q-1)=((l.length:Nat):Int)+q-1:=w64 (by omega) (by omega)
 have il:=qhS (n:=((l.length:Nat):Int)+q-1) (by omega) (by omega)
 unfold qmS qfp qfo qfn;simp only[jB,w1,w2,w3,qgw,qqk,QY];unfold qgE;by_cases c1:0≤q∧((l.length:Nat):Int)+q≤21
 · rw[z6 c1]
   have r:=qvB (n:=q) (by omega) (by omega)
   have zl:=qh8 q.toNat;simp (disch:=omega) only[↓bdT,↓bdF,r,zm]
   simp (disch:=((try simp only[jB,zb,zl]);omega)) only[bdB,QY]
 · rw[zQ c1]
   by_cases c2:q<0∧0<((l.length:Nat):Int)+q
   · rw[z6 c2]
     simp (disch:=omega) only[↓bdT,↓bdF,↓bdA,↓zg]
     simp (disch:=(simp only[zb,Ka,KA,zf,zk];omega)) only[bdB,QY,zn,Vm,Vz]
     rw[zP (l:=List.drop _ l) (by simp)]
   · rw[zQ c2]
     by_cases c3:((l.length:Nat):Int)+q≤0∧-5≤((l.length:Nat):Int)+q
     · rw[z6 c3]
       have r:=qvB (n:=-(((l.length:Nat):Int)+q)) (by omega) (by omega)
       have zl:=qh8 (-(((l.length:Nat):Int)+q)).toNat
       simp (disch:=omega) only[↓bdT,↓bdF,↓bdA,↓zg,r,zm]
       simp (disch:=((try simp only[jB,zb,zf,zk,zl]);omega)) only[bdB,QY]
     · rw[zQ c3]
       have r:=it_v (n:=((l.length:Nat):Int)+q-1) (by omega) (by omega)
       generalize itT (((l.length:Nat):Int)+q-1)=T at *
       have hq:0≤q∧21<((l.length:Nat):Int)+q∨q<0∧((l.length:Nat):Int)+q < -5:=by omega
       by_cases c4:1<l.length
       · rw[z6 c4]
         have ht:List.take (l.length-1) (l.drop 1)=l.drop 1:=zP (by simp)
         rcases hq with hq|hq
         · simp (disch:=omega) only[↓bdT,↓bdF,↓bdA,↓zg,r,zm]
           simp (disch:=((try simp only[jB,zb,zf,zk,Ka,KA]);omega)) only[bdB,QY,zn,Vm,Vz,ht]
           simp
         · simp (disch:=omega) only[↓bdT,↓bdF,↓bdA,↓zg,r,zm]
           simp (disch:=((try simp only[jB,zb,zf,zk,Ka,KA]);omega)) only[bdB,QY,zn,Vm,Vz,ht]
           simp
       · rw[zQ c4]
         rcases hq with hq|hq
         · simp (disch:=omega) only[↓bdT,↓bdF,↓bdA,↓zg,r,zm]
           simp (disch:=((try simp only[jB,zb,zf,zk,Ka,KA]);omega)) only[bdB,QY,zn,Vm,Vz]
           simp
         · simp (disch:=omega) only[↓bdT,↓bdF,↓bdA,↓zg,r,zm]
           simp (disch:=((try simp only[jB,zb,zf,zk,Ka,KA]);omega)) only[bdB,QY,zn,Vm,Vz]
           simp
end
end Su
